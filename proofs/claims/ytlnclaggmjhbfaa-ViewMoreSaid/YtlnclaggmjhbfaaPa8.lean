/- What the functions of labels give, in plain Lean, and the laws of labels; no condition. -/
import Derived.Test.YtlnclaggmjhbfaaGd8
namespace Go.Proofs.Ytlnclaggmjhbfaa
abbrev Lab := Int × List (Int × Int)

def atR (d : Int) : List (Int × Int) → Int → Int
  | [], _ => d
  | x :: l, c => if x.1 == c then x.2 else atR d l c
def atL (l : Lab) (c : Int) : Int := atR l.1 l.2 c

def hasR (v : Int) : List (Int × Int) → Bool
  | [] => false
  | x :: l => x.2 == v || hasR v l
def hasL (l : Lab) (v : Int) : Bool := hasR v l.2 || l.1 == v

/-- The merge of two rows. -/
def mrg (d e : Int) : Nat → List (Int × Int) → List (Int × Int) → List (Int × Int × Int)
  | 0, _, _ => []
  | _ + 1, [], [] => []
  | n + 1, x :: A, [] => (max x.1 0, x.2, e) :: mrg d e n A []
  | n + 1, [], y :: B => (max 0 y.1, d, y.2) :: mrg d e n [] B
  | n + 1, x :: A, y :: B => if x.1 < y.1 then (max x.1 0, x.2, e) :: mrg d e n A (y :: B) else if y.1 < x.1 then (max 0 y.1, d, y.2) :: mrg d e n (x :: A) B else (max x.1 y.1, x.2, y.2) :: mrg d e n A B
def levL (a b : Lab) (i k : Nat) : List (Int × Int × Int) := mrg a.1 b.1 (a.2.length + b.2.length - i - k) (a.2.drop i) (b.2.drop k)
def leqM (a b : Lab) : Bool := decide (a.1 ≤ b.1) && (levL a b 0 0).all fun x => decide (x.2.1 ≤ x.2.2)
end Go.Proofs.Ytlnclaggmjhbfaa
namespace Go.Proofs.Ytlnclaggmjhbfaa
abbrev maxId : Int := 2305843009213693951
def levelB (n : Int) : Bool := decide (0 ≤ n) && decide (n ≤ 5)
def catB (n : Int) : Bool := decide (1 ≤ n) && decide (n ≤ maxId)
def rowsR (d : Int) : Int → List (Int × Int) → Bool
  | _, [] => true
  | last, x :: l => decide (last < x.1) && (decide (x.1 ≤ maxId) && (levelB x.2 && (!(x.2 == d) && rowsR d x.1 l)))
def rightL (l : Lab) : Bool := levelB l.1 && (decide (l.2.length ≤ 16) && rowsR l.1 0 l.2)
def plainL (l : Lab) : Bool := rightL l && !hasL l 5
def freeL (l : Lab) : Bool := plainL l && !hasL l 0
def sayL (b : Bool) : Int := bif b then 0 else 3
def at0 (l : Lab) (c : Int) : Int := if c = 0 then l.1 else atL l c
def ruleL (l : List Bool) : Int := bif l.all id then 0 else 3
def putL (l : Lab) (c v : Int) : Lab := if v = l.1 then l else (l.1, l.2 ++ [(c, v)])
def turn1 (a b v : Int) : Int := if v = a then b else v
def turnR (d a b : Int) : List (Int × Int) → List (Int × Int)
  | [] => []
  | x :: l => if turn1 a b x.2 = d then turnR d a b l else (x.1, turn1 a b x.2) :: turnR d a b l
def turnL (l : Lab) (a b : Int) : Lab := (turn1 a b l.1, turnR (turn1 a b l.1) a b l.2)
def upL (l : Lab) : Lab := turnL l 0 5
def downL (l : Lab) : Lab := turnL l 5 0
def insN (c : Int) : List Int → List Int
  | [] => [c]
  | y :: l => if y < c then y :: insN c l else if y = c then y :: l else c :: y :: l
def addN (o : List Int) (l : List (Int × Int)) : List Int := l.foldl (fun o x => insN x.1 o) o
def namedL (ls : List Lab) : List Int := ls.foldl (fun o l => addN o l.2) []
def leqN (a b : Lab) : Bool := (namedL [a, b]).all (fun c => decide (atL a c ≤ atL b c)) && decide (a.1 ≤ b.1)
def seesM (t o : Lab) : Bool := leqM o (upL t)
def altersM (t o : Lab) : Bool := leqM t o && seesM t o
def seesN (t o : Lab) : Bool := leqN o (upL t)
def altersN (t o : Lab) : Bool := leqN t o && seesN t o
def belowL (l a b : Lab) : Bool := (namedL [l, a, b] ++ [0]).all fun c => decide (at0 l c ≤ max (at0 a c) (at0 b c))
def topC (bs : List Lab) (c : Int) : Int := bs.foldl (fun n b => max n (atL b c)) 0
def topD (bs : List Lab) : Int := bs.foldl (fun n b => max n b.1) 0
def underL (l : Lab) (bs : List Lab) : Bool := ((l :: bs).all fun b => b.2.all fun x => decide (atL l x.1 ≤ topC bs x.1)) && decide (l.1 ≤ topD bs)
def makeM (t c box l : Lab) : Int := ruleL [altersM t box, leqM t l, leqM l c, underL box [upL l, (2, [])]]
def makeN (t c box l : Lab) : Int := sayL (altersN t box && (leqN t l && (leqN l c && belowL box (upL l) (2, []))))
end Go.Proofs.Ytlnclaggmjhbfaa
namespace Go.Proofs.Ytlnclaggmjhbfaa
def rightsL (ls : List Lab) : Bool := ls.all rightL
def formsL (l c : Lab) : Bool := plainL l && freeL c
def floorC (x y : Int) : Int := if x = 0 ∨ y = 0 ∨ x = 5 ∨ y = 5 then 0 else max x y
def floorN (t g : Lab) (c : Int) : Int := floorC (at0 t c) (at0 g c)
def topF (f : Lab → Int) (bs : List Lab) : Int := bs.foldl (fun n b => max n (f b)) 0
def undB (l : Lab) (bs : List Lab) (b : Lab) : Bool := b.2.all fun x => decide (atL l x.1 ≤ topF (fun b => atL b x.1) bs)
def aboveB (t g w : Lab) (f : Lab → Int) : Bool := (f t == 0 || f g == 0) || decide (max (f t) (f g) ≤ f w)
def aboveL (t g w l : Lab) : Bool := l.2.all fun x => aboveB t g w (fun m => atL m x.1)
def floorM (t g w : Lab) : Bool := aboveB t g w (fun m => m.1) && [t, g, w].all (aboveL t g w)
def enterM (t c g gc w wc : Lab) : Int := bif formsL w wc then ruleL [leqM t gc, floorM t g w, leqM w wc, underL wc [c, gc]] else 1
def okN (t c gc w wc : Lab) : Bool := leqN t gc && leqN w wc && belowL wc c gc
def enterN (t c g gc w wc : Lab) : Int := bif plainL w && freeL wc then sayL (okN t c gc w wc && (namedL [t, g, w] ++ [0]).all fun k => decide (floorN t g k ≤ at0 w k)) else 1
def lendM (t c l m : Lab) : Int := bif formsL l m then ruleL [leqM t l, leqM l m, leqM m c] else 1
def riseM (t c w : Lab) : Int := bif plainL w then ruleL [leqM t w, leqM w c] else 1
def clearM (t c w : Lab) : Int := bif freeL w then ruleL [leqM t w, underL w [c, upL t]] else 1
def lendN (t c l m : Lab) : Int := bif plainL l && freeL m then sayL (leqN t l && leqN l m && leqN m c) else 1
def riseN (t c w : Lab) : Int := bif plainL w then sayL (leqN t w && leqN w c) else 1
def clearN (t c w : Lab) : Int := bif freeL w then sayL (leqN t w && belowL w c (upL t)) else 1
end Go.Proofs.Ytlnclaggmjhbfaa
namespace Go.Proofs.Ytlnclaggmjhbfaa
def cmpI (a b : Int) : Int := if a < b then -1 else if b < a then 1 else 0
def orR : List Int → Int
  | [] => 0
  | x :: l => if x = 0 then orR l else x
def cmpE (x y : Int × Int) : Int := orR [cmpI x.1 y.1, cmpI x.2 y.2]
def insE (x : Int × Int) : List (Int × Int) → List (Int × Int)
  | [] => [x]
  | y :: l => if cmpE x y ≤ 0 then x :: y :: l else y :: insE x l
def sortE : List (Int × Int) → List (Int × Int)
  | [] => []
  | x :: l => insE x (sortE l)
def adjB : List (Int × Int) → Bool
  | x :: y :: l => x.1 == y.1 || adjB (y :: l)
  | _ => false
def wrongE (d : Int) (cs : List (Int × Int)) : Bool := !levelB d || cs.any fun x => !levelB x.2 || !catB x.1
def wholeL (l : Lab) : Lab × Int := bif decide (16 < l.2.length) then ((0, []), 7) else (l, 0)
def makeE (d : Int) (cs : List (Int × Int)) : Lab × Int := bif wrongE d cs then ((0, []), 1) else wholeL (d, (sortE cs).filter fun x => !(x.2 == d))
def dist (cs : List (Int × Int)) : Bool := decide (cs.length < 20) && decide ((cs.map (·.1)).Nodup)
def namedB (l : Lab) (c : Int) : Bool := l.2.any fun x => x.1 == c
def withL (l : Lab) (c v : Int) : Lab × Int := bif catB c && levelB v then makeE l.1 (l.2 ++ [(c, v)]) else ((0, []), 1)
def bothR (f : Int → Int → Int) (d : Int) (ls : List (Int × Int × Int)) : List (Int × Int) := ls.filterMap fun x => if f x.2.1 x.2.2 = d then none else some (x.1, f x.2.1 x.2.2)
def bothL (f : Int → Int → Int) (a b : Lab) : Lab × Int := wholeL (f a.1 b.1, bothR f (f a.1 b.1) (levL a b 0 0))
def ownL (t c : Lab) (k : Int) : Lab × Lab × Int :=
  bif !catB k then ((0, []), (0, []), 1) else bif namedB t k || namedB c k then ((0, []), (0, []), 8)
  else if (withL t k 0).2 ≠ 0 then ((0, []), (0, []), (withL t k 0).2) else if (withL c k 4).2 ≠ 0 then ((0, []), (0, []), (withL c k 4).2) else ((withL t k 0).1, (withL c k 4).1, 0)
def floorL (t g : Lab) : Lab × Int := if (bothL max (upL t) (upL g)).2 ≠ 0 then ((0, []), (bothL max (upL t) (upL g)).2) else (downL (bothL max (upL t) (upL g)).1, 0)
def buildR (d : Int) (g : Int → Int) (cs : List Int) : List (Int × Int) := cs.filterMap fun c => if g c = d then none else some (c, g c)
def withNL (l : Lab) (c v : Int) : Lab × Int := bif catB c && levelB v then wholeL (l.1, buildR l.1 (fun k => if k = c then v else atL l k) (namedL [l, (0, [(c, v)])])) else ((0, []), 1)
def upR (t g : Lab) : List (Int × Int) := buildR (max (upL t).1 (upL g).1) (fun k => max (at0 (upL t) k) (at0 (upL g) k)) (namedL [t, g])
def floorNL (t g : Lab) : Lab × Int := bif decide (16 < (upR t g).length) then ((0, []), 7) else ((floorN t g 0, buildR (floorN t g 0) (fun k => floorN t g k) (namedL [t, g])), 0)
def ownNL (t c : Lab) (k : Int) : Lab × Lab × Int :=
  bif !catB k then ((0, []), (0, []), 1) else bif (namedL [t, c]).any (fun x => x == k) then ((0, []), (0, []), 8)
  else if (withNL t k 0).2 ≠ 0 ∨ (withNL c k 4).2 ≠ 0 then ((0, []), (0, []), 7) else ((withNL t k 0).1, (withNL c k 4).1, 0)
def sameL (a b : Lab) : Bool := decide (a = b)
def eqRows : List (Int × Int) → List (Int × Int) → Bool
  | x :: l, y :: m => (x.1 == y.1 && x.2 == y.2) && eqRows l m
  | _, _ => true
end Go.Proofs.Ytlnclaggmjhbfaa
namespace Go.Proofs.Ytlnclaggmjhbfaa
open Go.Proofs.Ytlnclaggmjhbfaa.Gx

theorem mrg_fuel (d e : Int) : (n m : Nat) → (A B : List (Int × Int)) → A.length + B.length ≤ n → A.length + B.length ≤ m → mrg d e n A B = mrg d e m A B
  | 0, 0, _, _, _, _ => rfl
  | 0, m + 1, A, B, h, _ => by
    have h1 : A = [] := List.eq_nil_of_length_eq_zero (by omega)
    have h2 : B = [] := List.eq_nil_of_length_eq_zero (by omega)
    subst h1; subst h2; rfl
  | n + 1, 0, A, B, _, h => by
    have h1 : A = [] := List.eq_nil_of_length_eq_zero (by omega)
    have h2 : B = [] := List.eq_nil_of_length_eq_zero (by omega)
    subst h1; subst h2; rfl
  | n + 1, m + 1, [], [], _, _ => rfl
  | n + 1, m + 1, x :: A, [], h, h' => by simp only [mrg]; rw [mrg_fuel d e n m A [] (by simp at h ⊢; omega) (by simp at h' ⊢; omega)]
  | n + 1, m + 1, [], y :: B, h, h' => by simp only [mrg]; rw [mrg_fuel d e n m [] B (by simp at h ⊢; omega) (by simp at h' ⊢; omega)]
  | n + 1, m + 1, x :: A, y :: B, h, h' => by
    simp only [List.length_cons] at h h'
    simp only [mrg]
    rw [mrg_fuel d e n m A (y :: B) (by simp; omega) (by simp; omega), mrg_fuel d e n m (x :: A) B (by simp; omega) (by simp; omega), mrg_fuel d e n m A B (by omega) (by omega)]

theorem drop_get {α : Type} {l : List α} {i : Nat} {y : α} (h : l[i]? = some y) : l.drop i = y :: l.drop (i + 1) := by
  obtain ⟨hlt, rfl⟩ := List.getElem?_eq_some_iff.1 h
  exact List.drop_eq_getElem_cons hlt

theorem get_cases {α : Type} (l : List α) (i : Nat) (h : i ≤ l.length) : (∃ x, l[i]? = some x ∧ i < l.length) ∨ (l[i]? = none ∧ i = l.length) := by
  rcases Nat.lt_or_ge i l.length with h1 | h1
  · exact .inl ⟨l[i], List.getElem?_eq_getElem h1, h1⟩
  · exact .inr ⟨List.getElem?_eq_none h1, by omega⟩

theorem lev_both {a b : Lab} {i k : Nat} {x y : Int × Int} (hx : a.2[i]? = some x) (hy : b.2[k]? = some y) (h1 : x.1 ≤ y.1) (h2 : y.1 ≤ x.1) : levL a b i k = (max x.1 y.1, x.2, y.2) :: levL a b (i + 1) (k + 1) := by
  have g1 := get_of_lt hx
  have g2 := get_of_lt hy
  obtain ⟨n, hn⟩ : ∃ n, a.2.length + b.2.length - i - k = n + 1 := ⟨a.2.length + b.2.length - i - k - 1, by omega⟩
  unfold levL
  rw [hn, drop_get hx, drop_get hy]
  simp only [mrg]
  rw [if_neg (by omega), if_neg (by omega), mrg_fuel a.1 b.1 n (a.2.length + b.2.length - (i + 1) - (k + 1)) _ _ (by simp; omega) (by simp; omega)]

theorem lev_first {a b : Lab} {i k : Nat} {x : Int × Int} (hx : a.2[i]? = some x) (hk : k ≤ b.2.length) (h : ∀ y, b.2[k]? = some y → x.1 < y.1) : levL a b i k = (max x.1 0, x.2, b.1) :: levL a b (i + 1) k := by
  have g1 := get_of_lt hx
  obtain ⟨n, hn⟩ : ∃ n, a.2.length + b.2.length - i - k = n + 1 := ⟨a.2.length + b.2.length - i - k - 1, by omega⟩
  unfold levL
  rw [hn, drop_get hx]
  rcases Nat.lt_or_ge k b.2.length with hk' | hk'
  · have hy : b.2[k]? = some b.2[k] := List.getElem?_eq_getElem hk'
    have := h _ hy
    rw [drop_get hy]
    simp only [mrg]
    rw [if_pos this, mrg_fuel a.1 b.1 n (a.2.length + b.2.length - (i + 1) - k) _ _ (by simp; omega) (by simp; omega)]
  · rw [List.drop_eq_nil_of_le hk']
    simp only [mrg]
    rw [mrg_fuel a.1 b.1 n (a.2.length + b.2.length - (i + 1) - k) _ _ (by simp; omega) (by simp; omega)]

theorem lev_second {a b : Lab} {i k : Nat} {y : Int × Int} (hy : b.2[k]? = some y) (hi : i ≤ a.2.length) (h : ∀ x, a.2[i]? = some x → y.1 < x.1) : levL a b i k = (max 0 y.1, a.1, y.2) :: levL a b i (k + 1) := by
  have g1 := get_of_lt hy
  obtain ⟨n, hn⟩ : ∃ n, a.2.length + b.2.length - i - k = n + 1 := ⟨a.2.length + b.2.length - i - k - 1, by omega⟩
  unfold levL
  rw [hn, drop_get hy]
  rcases Nat.lt_or_ge i a.2.length with hk' | hk'
  · have hx : a.2[i]? = some a.2[i] := List.getElem?_eq_getElem hk'
    have := h _ hx
    rw [drop_get hx]
    simp only [mrg]
    rw [if_neg (by omega), if_pos this, mrg_fuel a.1 b.1 n (a.2.length + b.2.length - i - (k + 1)) _ _ (by simp; omega) (by simp; omega)]
  · rw [List.drop_eq_nil_of_le hk']
    simp only [mrg]
    rw [mrg_fuel a.1 b.1 n (a.2.length + b.2.length - i - (k + 1)) _ _ (by simp; omega) (by simp; omega)]

theorem lev_nil {a b : Lab} {i k : Nat} (hi : a.2.length ≤ i) (hk : b.2.length ≤ k) : levL a b i k = [] := by
  unfold levL
  rw [show a.2.length + b.2.length - i - k = 0 by omega]
  rfl
end Go.Proofs.Ytlnclaggmjhbfaa
namespace Go.Proofs.Ytlnclaggmjhbfaa
open Go.Proofs.Ytlnclaggmjhbfaa.Gx
theorem insN_skip (c : Int) : (l : List Int) → (k : Nat) → (∀ (m : Nat) (y : Int), m < k → l[m]? = some y → y < c) → l[k]? = some c → insN c l = l
  | [], k, _, h => by simp at h
  | x :: l, 0, _, h => by
    simp at h; subst h
    simp [insN]
  | x :: l, k + 1, hs, h => by
    have hx : x < c := hs 0 x (by omega) (by simp)
    simp only [insN, if_pos hx]
    rw [insN_skip c l k (fun m y hm hy => hs (m + 1) y (by omega) (by simpa using hy)) (by simpa using h)]
theorem insN_new (c : Int) : (l : List Int) → (k : Nat) → k ≤ l.length → (∀ (m : Nat) (y : Int), m < k → l[m]? = some y → y < c) → (∀ y, l[k]? = some y → c < y) → insN c l = l.take k ++ [c] ++ l.drop k
  | [], k, hk, _, _ => by simp at hk; subst hk; rfl
  | x :: l, 0, _, _, h => by
    have hx : c < x := h x (by simp)
    simp only [insN]
    rw [if_neg (by omega), if_neg (by omega)]
    simp
  | x :: l, k + 1, hk, hs, h => by
    have hx : x < c := hs 0 x (by omega) (by simp)
    simp only [insN, if_pos hx]
    rw [insN_new c l k (by simpa using hk) (fun m y hm hy => hs (m + 1) y (by omega) (by simpa using hy)) (fun y hy => h y (by simpa using hy))]
    simp
theorem insN_len (c : Int) : (l : List Int) → (insN c l).length ≤ l.length + 1
  | [] => by simp [insN]
  | x :: l => by
    simp only [insN]
    have := insN_len c l
    split
    · simp; omega
    · split <;> simp
theorem addN_len (l : List (Int × Int)) : ∀ o, (addN o l).length ≤ o.length + l.length := by
  induction l with
  | nil => intro o; simp [addN]
  | cons x l ih => intro o; have := ih (insN x.1 o); have := insN_len x.1 o; simp only [addN, List.foldl_cons, List.length_cons] at *; omega
theorem addN_snoc (o : List Int) (l : List (Int × Int)) (x : Int × Int) : addN o (l ++ [x]) = insN x.1 (addN o l) := by simp [addN]
theorem namedL_snoc (ls : List Lab) (l : Lab) : namedL (ls ++ [l]) = addN (namedL ls) l.2 := by simp [namedL]
end Go.Proofs.Ytlnclaggmjhbfaa
namespace Go.Proofs.Ytlnclaggmjhbfaa
set_option linter.unusedSimpArgs false
set_option linter.unusedVariables false
def srt : Int → List (Int × Int) → Prop
  | _, [] => True
  | n, x :: l => n < x.1 ∧ srt x.1 l
theorem srt_mono {m n : Int} (h : n ≤ m) : (l : List (Int × Int)) → srt m l → srt n l
  | [], _ => trivial
  | x :: l, hs => ⟨Int.lt_of_le_of_lt h hs.1, hs.2⟩
theorem at_low {d c n : Int} : (l : List (Int × Int)) → srt n l → c ≤ n → atR d l c = d
  | [], _, _ => rfl
  | x :: l, hs, h => by
    obtain ⟨h1, h2⟩ := hs
    have hne : (x.1 == c) = false := by simp; omega
    simp only [atR, hne]
    exact at_low l h2 (by omega)
theorem at_ne {d c : Int} {x : Int × Int} {l : List (Int × Int)} (h : x.1 ≠ c) : atR d (x :: l) c = atR d l c := by
  have : (x.1 == c) = false := by simpa using h
  simp [atR, this]
theorem at_not {d c : Int} : (l : List (Int × Int)) → (∀ x ∈ l, x.1 ≠ c) → atR d l c = d
  | [], _ => rfl
  | x :: l, h => by
    have hne : (x.1 == c) = false := by simpa using h x (by simp)
    simp only [atR, hne]
    exact at_not l (fun y hy => h y (by simp [hy]))
theorem rows_srt {d : Int} : (l : List (Int × Int)) → (n : Int) → rowsR d n l = true → srt n l
  | [], _, _ => trivial
  | x :: l, n, h => by
    simp only [rowsR, Bool.and_eq_true, decide_eq_true_eq] at h
    exact ⟨h.1, rows_srt l x.1 h.2.2.2.2⟩
theorem right_srt {l : Lab} (h : rightL l = true) : srt 0 l.2 := by
  simp only [rightL, Bool.and_eq_true] at h
  exact rows_srt _ _ h.2.2
theorem right_len {l : Lab} (h : rightL l = true) : l.2.length ≤ 16 := by
  simp only [rightL, Bool.and_eq_true, decide_eq_true_eq] at h
  exact h.2.1
theorem plain_right {l : Lab} (h : plainL l = true) : rightL l = true := by
  simp only [plainL, Bool.and_eq_true] at h; exact h.1
theorem free_plain {l : Lab} (h : freeL l = true) : plainL l = true := by
  simp only [freeL, Bool.and_eq_true] at h; exact h.1
theorem levelB_iff {n : Int} : levelB n = true ↔ 0 ≤ n ∧ n ≤ 5 := by simp [levelB]
theorem rows_at {d : Int} (hd : levelB d = true) (c : Int) : (l : List (Int × Int)) → (n : Int) → rowsR d n l = true → levelB (atR d l c) = true
  | [], _, _ => hd
  | x :: l, n, h => by
    simp only [rowsR, Bool.and_eq_true] at h
    simp only [atR]
    split
    · exact h.2.2.1
    · exact rows_at hd c l x.1 h.2.2.2.2
theorem right_at {l : Lab} (h : rightL l = true) (c : Int) : 0 ≤ atL l c ∧ atL l c ≤ 5 := by
  simp only [rightL, Bool.and_eq_true] at h
  exact levelB_iff.1 (rows_at h.1 c _ _ h.2.2)
theorem right_def {l : Lab} (h : rightL l = true) : 0 ≤ l.1 ∧ l.1 ≤ 5 := by
  simp only [rightL, Bool.and_eq_true] at h
  exact levelB_iff.1 h.1
theorem hasR_at {v d c : Int} (hd : d ≠ v) : (l : List (Int × Int)) → hasR v l = false → atR d l c ≠ v
  | [], _ => hd
  | x :: l, h => by
    simp only [hasR, Bool.or_eq_false_iff] at h
    simp only [atR]
    split
    · intro e; rw [e] at h; simp at h
    · exact hasR_at hd l h.2
theorem has_at {l : Lab} {v : Int} (h : hasL l v = false) (c : Int) : atL l c ≠ v := by
  simp only [hasL, Bool.or_eq_false_iff] at h
  exact hasR_at (by intro e; rw [e] at h; simp at h) _ h.1
theorem has_def {l : Lab} {v : Int} (h : hasL l v = false) : l.1 ≠ v := by
  simp only [hasL, Bool.or_eq_false_iff] at h
  intro e; rw [e] at h; simp at h
theorem plain_at {l : Lab} (h : plainL l = true) (c : Int) : 0 ≤ atL l c ∧ atL l c ≤ 4 := by
  have h1 := right_at (plain_right h) c
  simp only [plainL, Bool.and_eq_true, Bool.not_eq_true'] at h
  have := has_at h.2 c
  omega
theorem plain_def {l : Lab} (h : plainL l = true) : 0 ≤ l.1 ∧ l.1 ≤ 4 := by
  have h1 := right_def (plain_right h)
  simp only [plainL, Bool.and_eq_true, Bool.not_eq_true'] at h
  have := has_def h.2
  omega
theorem free_at {l : Lab} (h : freeL l = true) (c : Int) : 1 ≤ atL l c ∧ atL l c ≤ 4 := by
  have h1 := plain_at (free_plain h) c
  simp only [freeL, Bool.and_eq_true, Bool.not_eq_true'] at h
  have := has_at h.2 c
  omega
theorem free_def {l : Lab} (h : freeL l = true) : 1 ≤ l.1 ∧ l.1 ≤ 4 := by
  have h1 := plain_def (free_plain h)
  simp only [freeL, Bool.and_eq_true, Bool.not_eq_true'] at h
  have := has_def h.2
  omega
/-! ### Raised and lowered labels -/
theorem turnR_srt {d a b : Int} : (l : List (Int × Int)) → (n : Int) → srt n l → srt n (turnR d a b l)
  | [], _, _ => trivial
  | x :: l, n, h => by
    simp only [turnR]
    split
    · exact srt_mono (Int.le_of_lt h.1) _ (turnR_srt l x.1 h.2)
    · exact ⟨h.1, turnR_srt l x.1 h.2⟩
theorem turnR_at {d a b c : Int} : (l : List (Int × Int)) → (n : Int) → srt n l → atR (turn1 a b d) (turnR (turn1 a b d) a b l) c = turn1 a b (atR d l c)
  | [], _, _ => rfl
  | x :: l, n, h => by
    have ih := turnR_at (d := d) (a := a) (b := b) (c := c) l x.1 h.2
    by_cases e : x.1 = c
    · have e' : (x.1 == c) = true := by simpa using e
      simp only [turnR, atR, e']
      split
      · rename_i hd
        rw [at_low _ (turnR_srt l x.1 h.2) (by omega)]
        exact hd.symm
      · simp only [atR, e']; rfl
    · have e' : (x.1 == c) = false := by simpa using e
      simp only [turnR, atR, e']
      split
      · exact ih
      · simp only [atR, e']; exact ih
theorem up_srt {l : Lab} {n : Int} (h : srt n l.2) : srt n (upL l).2 := turnR_srt _ _ h
theorem up_at {l : Lab} {n : Int} (h : srt n l.2) (c : Int) : atL (upL l) c = turn1 0 5 (atL l c) := turnR_at _ _ h
theorem up_def (l : Lab) : (upL l).1 = turn1 0 5 l.1 := rfl
theorem up_free {l : Lab} (h : freeL l = true) (c : Int) : atL (upL l) c = atL l c := by
  rw [up_at (right_srt (plain_right (free_plain h)))]
  have := free_at h c
  simp [turn1]; omega
theorem up_same {l : Lab} (h : rightL l = true) (c : Int) (hc : atL l c ≠ 0) : atL (upL l) c = atL l c := by
  rw [up_at (right_srt h)]; simp [turn1, hc]
theorem turn1_up {n : Int} (h : 0 ≤ n ∧ n ≤ 5) : 0 ≤ turn1 0 5 n ∧ turn1 0 5 n ≤ 5 := by unfold turn1; split <;> omega
theorem up_bounds {l : Lab} (h : rightL l = true) (c : Int) : 0 ≤ atL (upL l) c ∧ atL (upL l) c ≤ 5 := by
  rw [up_at (right_srt h)]; exact turn1_up (right_at h c)
theorem up_dbounds {l : Lab} (h : rightL l = true) : 0 ≤ (upL l).1 ∧ (upL l).1 ≤ 5 := turn1_up (right_def h)
/-! ### Named categories -/
theorem mem_insN {c x : Int} : (l : List Int) → (c ∈ insN x l ↔ c = x ∨ c ∈ l)
  | [] => by simp [insN]
  | y :: l => by
    simp only [insN]
    split
    · simp only [List.mem_cons, mem_insN l]
      constructor <;> intro h <;> rcases h with h | h | h <;> simp [h]
    · split
      · rename_i h; subst h; simp
      · simp
theorem mem_addN {c : Int} (l : List (Int × Int)) : ∀ o, (c ∈ addN o l ↔ c ∈ o ∨ ∃ x ∈ l, x.1 = c) := by
  induction l with
  | nil => intro o; simp [addN]
  | cons x l ih =>
    intro o
    have := ih (insN x.1 o)
    simp only [addN, List.foldl_cons] at this ⊢
    rw [this, mem_insN]
    constructor
    · rintro ((h | h) | ⟨y, hy, h⟩)
      · exact .inr ⟨x, by simp, h.symm⟩
      · exact .inl h
      · exact .inr ⟨y, by simp [hy], h⟩
    · rintro (h | ⟨y, hy, h⟩)
      · exact .inl (.inr h)
      · rcases List.mem_cons.1 hy with rfl | hy
        · exact .inl (.inl h.symm)
        · exact .inr ⟨y, hy, h⟩
theorem mem_namedL {c : Int} (ls : List Lab) : c ∈ namedL ls ↔ ∃ l ∈ ls, ∃ x ∈ l.2, x.1 = c := by
  have : ∀ (ls : List Lab) (o : List Int), (c ∈ ls.foldl (fun o l => addN o l.2) o ↔ c ∈ o ∨ ∃ l ∈ ls, ∃ x ∈ l.2, x.1 = c) := by
    intro ls
    induction ls with
    | nil => intro o; simp
    | cons l ls ih =>
      intro o
      rw [List.foldl_cons, ih, mem_addN]
      constructor
      · rintro ((h | h) | ⟨m, hm, h⟩)
        · exact .inl h
        · exact .inr ⟨l, by simp, h⟩
        · exact .inr ⟨m, by simp [hm], h⟩
      · rintro (h | ⟨m, hm, h⟩)
        · exact .inl (.inl h)
        · rcases List.mem_cons.1 hm with rfl | hm
          · exact .inl (.inr h)
          · exact .inr ⟨m, hm, h⟩
  simpa [namedL] using this ls []
theorem at_unnamed {ls : List Lab} {c : Int} (h : c ∉ namedL ls) {l : Lab} (hl : l ∈ ls) : atL l c = l.1 :=
  at_not _ fun x hx e => h ((mem_namedL ls).2 ⟨l, hl, x, hx, e⟩)
/-! ### Comparing -/
def leqA (a b : Lab) : Prop := a.1 ≤ b.1 ∧ ∀ c, atL a c ≤ atL b c
theorem leqN_iff (a b : Lab) : leqN a b = true ↔ leqA a b := by
  simp only [leqN, Bool.and_eq_true, List.all_eq_true, decide_eq_true_eq, leqA]
  constructor
  · rintro ⟨h1, h2⟩
    refine ⟨h2, fun c => ?_⟩
    by_cases hc : c ∈ namedL [a, b]
    · exact h1 c hc
    · rw [at_unnamed hc (l := a) (by simp), at_unnamed hc (l := b) (by simp)]; exact h2
  · rintro ⟨h1, h2⟩
    exact ⟨fun c _ => h2 c, h1⟩
theorem mrg_iff {d e : Int} (hde : d ≤ e) : (n : Nat) → (A B : List (Int × Int)) → (m : Int) → srt m A → srt m B → A.length + B.length ≤ n →
    ((mrg d e n A B).all (fun x => decide (x.2.1 ≤ x.2.2)) = true ↔ ∀ c, atR d A c ≤ atR e B c)
  | 0, [], [], m, _, _, _ => by simp [mrg, atR, hde]
  | 0, x :: A, B, m, _, _, h => by simp at h
  | 0, [], y :: B, m, _, _, h => by simp at h
  | n + 1, [], [], m, _, _, _ => by simp [mrg, atR, hde]
  | n + 1, x :: A, [], m, hA, hB, h => by
    have ih := mrg_iff hde n A [] x.1 hA.2 trivial (by simp at h ⊢; omega)
    have hx : atR d A x.1 = d := at_low A hA.2 (Int.le_refl _)
    simp only [mrg, List.all_cons, Bool.and_eq_true, decide_eq_true_eq, ih]
    constructor
    · rintro ⟨h1, h2⟩ c
      by_cases e : x.1 = c
      · simp [atR, e, h1]
      · rw [at_ne e]; exact h2 c
    · intro h
      refine ⟨by have := h x.1; simpa [atR] using this, fun c => ?_⟩
      by_cases e : x.1 = c
      · subst e; rw [hx]; exact hde
      · have := h c
        rw [at_ne e] at this; exact this
  | n + 1, [], y :: B, m, hA, hB, h => by
    have ih := mrg_iff hde n [] B y.1 trivial hB.2 (by simp at h ⊢; omega)
    have hy : atR e B y.1 = e := at_low B hB.2 (Int.le_refl _)
    simp only [mrg, List.all_cons, Bool.and_eq_true, decide_eq_true_eq, ih]
    constructor
    · rintro ⟨h1, h2⟩ c
      by_cases e' : y.1 = c
      · simp [atR, e', h1]
      · rw [at_ne e']; exact h2 c
    · intro h
      refine ⟨by have := h y.1; simpa [atR] using this, fun c => ?_⟩
      by_cases e' : y.1 = c
      · subst e'; rw [hy]; exact hde
      · have := h c
        rw [at_ne e'] at this; exact this
  | n + 1, x :: A, y :: B, m, hA, hB, h => by
    have hx : atR d A x.1 = d := at_low A hA.2 (Int.le_refl _)
    have hy : atR e B y.1 = e := at_low B hB.2 (Int.le_refl _)
    simp only [mrg]
    split
    · rename_i hlt
      have ih := mrg_iff hde n A (y :: B) x.1 hA.2 ⟨hlt, hB.2⟩ (by simp at h ⊢; omega)
      have hyx : atR e (y :: B) x.1 = e := at_low (n := x.1) (y :: B) ⟨hlt, hB.2⟩ (Int.le_refl _)
      simp only [List.all_cons, Bool.and_eq_true, decide_eq_true_eq, ih]
      constructor
      · rintro ⟨h1, h2⟩ c
        by_cases e' : x.1 = c
        · subst e'; rw [hyx]; simpa [atR] using h1
        · rw [at_ne e']; exact h2 c
      · intro h
        refine ⟨by have := h x.1; rw [hyx] at this; simpa [atR] using this, fun c => ?_⟩
        by_cases e' : x.1 = c
        · subst e'; rw [hx, hyx]; exact hde
        · have := h c
          rw [at_ne e'] at this; exact this
    · split
      · rename_i _ hlt
        have ih := mrg_iff hde n (x :: A) B y.1 ⟨hlt, hA.2⟩ hB.2 (by simp at h ⊢; omega)
        have hxy : atR d (x :: A) y.1 = d := at_low (n := y.1) (x :: A) ⟨hlt, hA.2⟩ (Int.le_refl _)
        simp only [List.all_cons, Bool.and_eq_true, decide_eq_true_eq, ih]
        constructor
        · rintro ⟨h1, h2⟩ c
          by_cases e' : y.1 = c
          · subst e'; rw [hxy]; simpa [atR] using h1
          · rw [at_ne e']; exact h2 c
        · intro h
          refine ⟨by have := h y.1; rw [hxy] at this; simpa [atR] using this, fun c => ?_⟩
          by_cases e' : y.1 = c
          · subst e'; rw [hy, hxy]; exact hde
          · have := h c
            rw [at_ne e'] at this; exact this
      · rename_i h1 h2
        have exy : x.1 = y.1 := by omega
        have ih := mrg_iff hde n A B x.1 hA.2 (by rw [exy]; exact hB.2) (by simp at h ⊢; omega)
        simp only [List.all_cons, Bool.and_eq_true, decide_eq_true_eq, ih]
        constructor
        · rintro ⟨h1, h2⟩ c
          by_cases e' : x.1 = c
          · have e2 : y.1 = c := by omega
            simpa [atR, e', e2] using h1
          · have e2 : y.1 ≠ c := by omega
            rw [at_ne e', at_ne e2]; exact h2 c
        · intro h
          refine ⟨by have := h x.1; simpa [atR, exy] using this, fun c => ?_⟩
          by_cases e' : x.1 = c
          · subst e'; rw [hx, exy, hy]; exact hde
          · have e2 : y.1 ≠ c := by omega
            have := h c
            rw [at_ne e', at_ne e2] at this; exact this
theorem leqM_iff {a b : Lab} (ha : srt 0 a.2) (hb : srt 0 b.2) : leqM a b = true ↔ leqA a b := by
  simp only [leqM, levL, Bool.and_eq_true, decide_eq_true_eq, leqA, List.drop_zero, Nat.sub_zero]
  constructor
  · rintro ⟨h1, h2⟩
    exact ⟨h1, (mrg_iff h1 _ _ _ 0 ha hb (Nat.le_refl _)).1 h2⟩
  · rintro ⟨h1, h2⟩
    exact ⟨h1, (mrg_iff h1 _ _ _ 0 ha hb (Nat.le_refl _)).2 h2⟩
theorem leq_eq {a b : Lab} (ha : srt 0 a.2) (hb : srt 0 b.2) : leqM a b = leqN a b := by
  rw [Bool.eq_iff_iff, leqM_iff ha hb, leqN_iff]
theorem altersM_eq {t o : Lab} (ht : rightL t = true) (ho : rightL o = true) : altersM t o = altersN t o := by
  have h1 := right_srt ht; have h2 := right_srt ho
  simp only [altersM, altersN, seesM, seesN, leq_eq h1 h2, leq_eq h2 (up_srt h1)]
/-! ### Below the greater one of some -/
theorem topF2 (f : Lab → Int) (a b : Lab) (ha : 0 ≤ f a) : topF f [a, b] = max (f a) (f b) := by
  simp only [topF, List.foldl_cons, List.foldl_nil]; omega
theorem topF_congr {f g : Lab → Int} : (bs : List Lab) → (∀ b ∈ bs, f b = g b) → ∀ n, bs.foldl (fun n b => max n (f b)) n = bs.foldl (fun n b => max n (g b)) n
  | [], _, _ => rfl
  | b :: bs, h, n => by
    simp only [List.foldl_cons]
    rw [h b (by simp)]
    exact topF_congr bs (fun x hx => h x (by simp [hx])) _
theorem underL_iff (l : Lab) (bs : List Lab) : underL l bs = true ↔ l.1 ≤ topF (fun b => b.1) bs ∧ ∀ c, atL l c ≤ topF (fun b => atL b c) bs := by
  have hU : underL l bs = ((l :: bs).all (undB l bs) && decide (l.1 ≤ topF (fun l => l.1) bs)) := rfl
  rw [hU]
  simp only [Bool.and_eq_true, List.all_eq_true, decide_eq_true_eq, undB]
  constructor
  · rintro ⟨h1, h2⟩
    refine ⟨h2, fun c => ?_⟩
    by_cases hc : c ∈ namedL (l :: bs)
    · obtain ⟨b, hb, x, hx, rfl⟩ := (mem_namedL _).1 hc
      exact h1 b hb x hx
    · rw [at_unnamed hc (l := l) (by simp)]
      have : topF (fun b => atL b c) bs = topF (fun b => b.1) bs := topF_congr bs (fun b hb => at_unnamed hc (by simp [hb])) 0
      rw [this]; exact h2
  · rintro ⟨h1, h2⟩
    exact ⟨fun b _ x _ => h2 x.1, h1⟩
theorem at0_eq {l : Lab} {c : Int} (h : c ≠ 0) : at0 l c = atL l c := by simp [at0, h]
theorem at0_zero (l : Lab) : at0 l 0 = l.1 := rfl
theorem named_pos {ls : List Lab} (h : ∀ l ∈ ls, srt 0 l.2) {c : Int} (hc : c ∈ namedL ls) : c ≠ 0 := by
  obtain ⟨l, hl, x, hx, rfl⟩ := (mem_namedL _).1 hc
  have : ∀ (k : List (Int × Int)) (n : Int), srt n k → x ∈ k → n < x.1 := by
    intro k
    induction k with
    | nil => intro n _ hx; simp at hx
    | cons y k ih =>
      intro n hs hx
      rcases List.mem_cons.1 hx with rfl | hx
      · exact hs.1
      · have := ih _ hs.2 hx; have := hs.1; omega
  have := this _ _ (h l hl) hx
  omega
theorem belowL_iff {l a b : Lab} (hl : srt 0 l.2) (ha : srt 0 a.2) (hb : srt 0 b.2) : belowL l a b = true ↔ l.1 ≤ max a.1 b.1 ∧ ∀ c, atL l c ≤ max (atL a c) (atL b c) := by
  have hs : ∀ x ∈ [l, a, b], srt 0 x.2 := by
    intro x hx; simp at hx; rcases hx with rfl | rfl | rfl <;> assumption
  simp only [belowL, List.all_eq_true, decide_eq_true_eq, List.mem_append, List.mem_singleton]
  constructor
  · intro h
    have h0 := h 0 (.inr rfl)
    simp only [at0_zero] at h0
    refine ⟨h0, fun c => ?_⟩
    by_cases hc : c ∈ namedL [l, a, b]
    · have hne := named_pos hs hc
      have := h c (.inl hc)
      rwa [at0_eq hne, at0_eq hne, at0_eq hne] at this
    · rw [at_unnamed hc (l := l) (by simp), at_unnamed hc (l := a) (by simp), at_unnamed hc (l := b) (by simp)]; exact h0
  · rintro ⟨h1, h2⟩ c hc
    by_cases e : c = 0
    · subst e; simp only [at0_zero]; exact h1
    · rw [at0_eq e, at0_eq e, at0_eq e]; exact h2 c
theorem under_eq {l a b : Lab} (hl : srt 0 l.2) (ha : srt 0 a.2) (hb : srt 0 b.2) (h1 : 0 ≤ a.1) (h2 : ∀ c, 0 ≤ atL a c) : underL l [a, b] = belowL l a b := by
  rw [Bool.eq_iff_iff, underL_iff, belowL_iff hl ha hb, topF2 _ _ _ h1]
  constructor <;> rintro ⟨h3, h4⟩ <;> refine ⟨h3, fun c => ?_⟩ <;> have := h4 c <;> rw [topF2 _ _ _ (h2 c)] at * <;> exact this
theorem two_srt : srt 0 ((2, []) : Lab).2 := trivial
theorem ruleL_eq (a b c d : Bool) : ruleL [a, b, c, d] = sayL (a && (b && (c && d))) := by
  cases a <;> cases b <;> cases c <;> cases d <;> rfl
theorem ruleL_eq3 (a b c : Bool) : ruleL [a, b, c] = sayL (a && b && c) := by
  cases a <;> cases b <;> cases c <;> rfl
theorem ruleL_eq2 (a b : Bool) : ruleL [a, b] = sayL (a && b) := by
  cases a <;> cases b <;> rfl
theorem sayL_ok (b : Bool) : sayL b = 0 ↔ b = true := by cases b <;> simp [sayL]
theorem make_eq {t c b l : Lab} (ht : rightL t = true) (hc : rightL c = true) (hb : rightL b = true) (hl : rightL l = true) : makeM t c b l = makeN t c b l := by
  have st := right_srt ht; have sc := right_srt hc; have sb := right_srt hb; have sl := right_srt hl
  simp only [makeM, makeN, ruleL_eq, altersM_eq ht hb, leq_eq st sl, leq_eq sl sc]
  rw [under_eq sb (up_srt sl) two_srt (up_dbounds hl).1 (fun c => (up_bounds hl c).1)]
end Go.Proofs.Ytlnclaggmjhbfaa
namespace Go.Proofs.Ytlnclaggmjhbfaa
set_option linter.unusedSimpArgs false
set_option linter.unusedVariables false
theorem above_iff {t g w : Lab} {f : Lab → Int} (ht : 0 ≤ f t ∧ f t ≤ 4) (hg : 0 ≤ f g ∧ f g ≤ 4) (hw : 0 ≤ f w) : aboveB t g w f = true ↔ floorC (f t) (f g) ≤ f w := by
  simp only [aboveB, Bool.or_eq_true, beq_iff_eq, decide_eq_true_eq, floorC]
  split <;> omega
theorem floorM_iff (t g w : Lab) : floorM t g w = true ↔ aboveB t g w (fun m => m.1) = true ∧ ∀ c, aboveB t g w (fun m => atL m c) = true := by
  simp only [floorM, Bool.and_eq_true, List.all_eq_true, aboveL]
  constructor
  · rintro ⟨h1, h2⟩
    refine ⟨h1, fun c => ?_⟩
    by_cases hc : c ∈ namedL [t, g, w]
    · obtain ⟨b, hb, x, hx, rfl⟩ := (mem_namedL _).1 hc
      exact h2 b hb x hx
    · have e1 := at_unnamed hc (l := t) (by simp)
      have e2 := at_unnamed hc (l := g) (by simp)
      have e3 := at_unnamed hc (l := w) (by simp)
      simp only [aboveB, e1, e2, e3] at h1 ⊢; exact h1
  · rintro ⟨h1, h2⟩
    exact ⟨h1, fun b _ x _ => h2 x.1⟩
theorem floor_eq {t g w : Lab} (ht : plainL t = true) (hg : plainL g = true) (hw : rightL w = true) : floorM t g w = (namedL [t, g, w] ++ [0]).all fun k => decide (floorN t g k ≤ at0 w k) := by
  have hs : ∀ x ∈ [t, g, w], srt 0 x.2 := by
    intro x hx; simp at hx
    rcases hx with rfl | rfl | rfl
    · exact right_srt (plain_right ht)
    · exact right_srt (plain_right hg)
    · exact right_srt hw
  rw [Bool.eq_iff_iff, floorM_iff, above_iff (plain_def ht) (plain_def hg) (right_def hw).1]
  simp only [List.all_eq_true, decide_eq_true_eq, List.mem_append, List.mem_singleton]
  simp only [floorN]
  constructor
  · rintro ⟨h1, h2⟩ c hc
    by_cases e : c = 0
    · subst e; simp only [at0_zero]; exact h1
    · rw [at0_eq e, at0_eq e, at0_eq e]
      exact (above_iff (plain_at ht c) (plain_at hg c) (right_at hw c).1).1 (h2 c)
  · intro h
    have h0 := h 0 (.inr rfl)
    simp only [at0_zero] at h0
    refine ⟨h0, fun c => (above_iff (plain_at ht c) (plain_at hg c) (right_at hw c).1).2 ?_⟩
    by_cases hc : c ∈ namedL [t, g, w]
    · have hne := named_pos hs hc
      have := h c (.inl hc)
      rwa [at0_eq hne, at0_eq hne, at0_eq hne] at this
    · rw [at_unnamed hc (l := t) (by simp), at_unnamed hc (l := g) (by simp), at_unnamed hc (l := w) (by simp)]; exact h0
theorem enter_eq {t c g gc w wc : Lab} (ht : plainL t = true) (hc : rightL c = true) (hg : plainL g = true) (hgc : rightL gc = true) (hw : rightL w = true) (hwc : rightL wc = true) : enterM t c g gc w wc = enterN t c g gc w wc := by
  have st := right_srt (plain_right ht); have sc := right_srt hc; have sg := right_srt (plain_right hg); have sgc := right_srt hgc; have sw := right_srt hw; have swc := right_srt hwc
  simp only [enterM, enterN, formsL, okN, ruleL_eq, leq_eq st sgc, leq_eq sw swc, floor_eq ht hg hw]
  rw [under_eq swc sc sgc (right_def hc).1 (fun k => (right_at hc k).1)]
  cases leqN t gc <;> cases leqN w wc <;> cases belowL wc c gc <;> simp
theorem rise_eq {t c w : Lab} (ht : rightL t = true) (hc : rightL c = true) (hw : rightL w = true) : riseM t c w = riseN t c w := by
  simp only [riseM, riseN, ruleL_eq2, leq_eq (right_srt ht) (right_srt hw), leq_eq (right_srt hw) (right_srt hc)]
theorem lend_eq {t c l m : Lab} (ht : rightL t = true) (hc : rightL c = true) (hl : rightL l = true) (hm : rightL m = true) : lendM t c l m = lendN t c l m := by
  simp only [lendM, lendN, formsL, ruleL_eq3, leq_eq (right_srt ht) (right_srt hl), leq_eq (right_srt hl) (right_srt hm), leq_eq (right_srt hm) (right_srt hc)]
theorem clear_eq {t c w : Lab} (ht : rightL t = true) (hc : rightL c = true) (hw : rightL w = true) : clearM t c w = clearN t c w := by
  simp only [clearM, clearN, ruleL_eq2, leq_eq (right_srt ht) (right_srt hw)]
  rw [under_eq (right_srt hw) (right_srt hc) (up_srt (right_srt ht)) (right_def hc).1 (fun k => (right_at hc k).1)]
theorem taints_law {t c b l : Lab} (ht : plainL t = true) (hc : rightL c = true) (hb : rightL b = true) (hl : freeL l = true) (h : makeM t c b l = 0) (k : Int) :
    ¬ atL l k < atL t k ∧ (atL l k < atL b k → ¬ atL b k > 2) ∧ (atL t k ≠ 0 → atL b k = atL t k) := by
  have rt := plain_right ht; have rl := plain_right (free_plain hl)
  have st := right_srt rt; have sc := right_srt hc; have sb := right_srt hb; have sl := right_srt rl
  rw [makeM, ruleL_eq, sayL_ok] at h
  simp only [Bool.and_eq_true, altersM, seesM, leqM_iff st sb, leqM_iff sb (up_srt st), leqM_iff st sl, leqM_iff sl sc, underL_iff] at h
  obtain ⟨⟨h1, h2⟩, h3, h4, h5⟩ := h
  have g1 := h3.2 k
  have g2 := h5.2 k
  rw [topF2 _ _ _ (up_bounds rl k).1, up_free hl] at g2
  have e2 : atL (2, []) k = 2 := rfl
  rw [e2] at g2
  refine ⟨by omega, fun _ => by omega, fun hne => ?_⟩
  have g3 := h1.2 k
  have g4 := h2.2 k
  rw [up_same rt k hne] at g4
  omega
theorem rise_law {t c w : Lab} (ht : rightL t = true) (hw : rightL w = true) (h : riseM t c w = 0) (k : Int) : atL t k ≤ atL w k := by
  unfold riseM at h
  cases hp : plainL w
  · rw [hp] at h; simp at h
  · rw [hp, cond_true, ruleL_eq2, sayL_ok, Bool.and_eq_true, leqM_iff (right_srt ht) (right_srt hw)] at h
    exact h.1.2 k
theorem enter_law {t c g gc w wc : Lab} (h : enterM t c g gc w wc = 0) (k : Int) (h1 : atL t k ≠ 0) (h2 : atL g k ≠ 0) : atL t k ≤ atL w k := by
  unfold enterM at h
  cases hp : formsL w wc
  · rw [hp] at h; simp at h
  · rw [hp, cond_true, ruleL_eq, sayL_ok, Bool.and_eq_true, Bool.and_eq_true, floorM_iff] at h
    have := h.2.1.2 k
    simp only [aboveB, Bool.or_eq_true, beq_iff_eq, decide_eq_true_eq] at this
    omega
theorem leqA_trans {a b c : Lab} (h1 : leqA a b) (h2 : leqA b c) : leqA a c := ⟨Int.le_trans h1.1 h2.1, fun k => Int.le_trans (h1.2 k) (h2.2 k)⟩
theorem mid_law {t c m w : Lab} (ht : plainL t = true) (hc : rightL c = true) (hm : plainL m = true) (hw : plainL w = true) (h : riseM t c w = 0) (h1 : leqN t m = true) (h2 : leqN m w = true) : riseM t c m = 0 ∧ riseM m c w = 0 := by
  have st := right_srt (plain_right ht); have sc := right_srt hc; have sm := right_srt (plain_right hm); have sw := right_srt (plain_right hw)
  simp only [riseM, hw, hm, cond_true, ruleL_eq2, sayL_ok, Bool.and_eq_true, leqM_iff st sw, leqM_iff sw sc, leqM_iff st sm, leqM_iff sm sc, leqM_iff sm sw] at h ⊢
  rw [leqN_iff] at h1 h2
  exact ⟨⟨h1, leqA_trans h2 h.2⟩, h2, h.2⟩
theorem at_nil (d k : Int) : atL (d, []) k = d := rfl
theorem low_up {t : Lab} (ht : plainL t = true) : leqN (1, []) (upL t) = true := by
  have rt := plain_right ht
  rw [leqN_iff]
  have key : ∀ n : Int, 0 ≤ n → 1 ≤ turn1 0 5 n := by intro n hn; unfold turn1; split <;> omega
  refine ⟨key _ (plain_def ht).1, fun k => ?_⟩
  rw [up_at (right_srt rt), at_nil]
  exact key _ (plain_at ht k).1
theorem door_law {t c : Lab} (ht : plainL t = true) (hc : freeL c = true) : (enterM t c (1, []) (4, []) t c == 0) = leqN t c := by
  have rt := plain_right ht; have rc := plain_right (free_plain hc)
  have st := right_srt rt; have sc := right_srt rc
  have h1 : leqM t (4, []) = true := (leqM_iff (b := (4, [])) st trivial).2 ⟨(plain_def ht).2, fun k => (plain_at ht k).2⟩
  have h2 : floorM t (1, []) t = true := by
    rw [floorM_iff]
    simp only [aboveB, Bool.or_eq_true, beq_iff_eq, decide_eq_true_eq, at_nil]
    have := plain_def ht
    refine ⟨?_, fun k => ?_⟩
    · show (t.1 = 0 ∨ (1 : Int) = 0) ∨ max t.1 1 ≤ t.1
      omega
    · have := plain_at ht k
      rcases Int.lt_or_le (atL t k) 1 with h | h
      · exact .inl (.inl (by omega))
      · exact .inr (decide_eq_true (show max (atL t k) 1 ≤ atL t k by omega))
  have h3 : underL c [c, (4, [])] = true := by
    rw [underL_iff, topF2 _ _ _ (right_def rc).1]
    refine ⟨by omega, fun k => ?_⟩
    rw [topF2 _ _ _ (right_at rc k).1]; omega
  rw [enterM, formsL, ht, hc, ruleL_eq, h1, h2, h3, leq_eq st sc]
  cases leqN t c <;> rfl
end Go.Proofs.Ytlnclaggmjhbfaa
namespace Go.Proofs.Ytlnclaggmjhbfaa
set_option linter.unusedSimpArgs false
set_option linter.unusedVariables false
theorem cmpE_eq (x y : Int × Int) : cmpE x y = if x.1 < y.1 then -1 else if y.1 < x.1 then 1 else if x.2 < y.2 then -1 else if y.2 < x.2 then 1 else 0 := by
  simp only [cmpE, orR, cmpI]
  split <;> split <;> simp_all <;> (try split) <;> (try split) <;> simp_all
theorem cmpE_le {x y : Int × Int} : cmpE x y ≤ 0 ↔ x.1 < y.1 ∨ (x.1 = y.1 ∧ x.2 ≤ y.2) := by
  rw [cmpE_eq]
  (repeat' split) <;> omega
theorem cmpE_lt {x y : Int × Int} : cmpE x y < 0 ↔ x.1 < y.1 ∨ (x.1 = y.1 ∧ x.2 < y.2) := by
  rw [cmpE_eq]
  (repeat' split) <;> omega
theorem cmpE_antisymm {x y : Int × Int} (h1 : cmpE x y ≤ 0) (h2 : cmpE y x ≤ 0) : x = y := by
  rw [cmpE_le] at h1 h2
  have a : x.1 = y.1 := by omega
  have b : x.2 = y.2 := by omega
  exact Prod.ext a b
theorem cmpE_trans {x y z : Int × Int} (h1 : cmpE x y ≤ 0) (h2 : cmpE y z ≤ 0) : cmpE x z ≤ 0 := by
  rw [cmpE_le] at h1 h2 ⊢
  omega
theorem cmpE_total {x y : Int × Int} (h : ¬ cmpE x y < 0) : cmpE y x ≤ 0 := by
  rw [cmpE_lt] at h
  rw [cmpE_le]
  omega
theorem insE_perm (x : Int × Int) : (l : List (Int × Int)) → (insE x l).Perm (x :: l)
  | [] => List.Perm.refl _
  | y :: l => by
    simp only [insE]
    split
    · exact List.Perm.refl _
    · exact (List.Perm.cons y (insE_perm x l)).trans (List.Perm.swap x y l)
theorem sortE_perm : (l : List (Int × Int)) → (sortE l).Perm l
  | [] => List.Perm.refl _
  | x :: l => by simp only [sortE]; exact (insE_perm x _).trans (List.Perm.cons x (sortE_perm l))
theorem insE_sorted (x : Int × Int) : (l : List (Int × Int)) → l.Pairwise (fun a b => cmpE a b ≤ 0) → (insE x l).Pairwise (fun a b => cmpE a b ≤ 0)
  | [], _ => by simp [insE]
  | y :: l, h => by
    simp only [insE]
    split
    · rename_i hle
      refine List.Pairwise.cons (fun z hz => ?_) h
      rcases List.mem_cons.1 hz with rfl | hz
      · exact hle
      · exact cmpE_trans hle (List.rel_of_pairwise_cons h hz)
    · rename_i hgt
      have hyx : cmpE y x ≤ 0 := cmpE_total (by omega)
      refine List.Pairwise.cons (fun z hz => ?_) (insE_sorted x l (List.Pairwise.of_cons h))
      rcases List.mem_cons.1 ((insE_perm x l).mem_iff.1 hz) with rfl | hz
      · exact hyx
      · exact List.rel_of_pairwise_cons h hz
theorem sortE_sorted : (l : List (Int × Int)) → (sortE l).Pairwise (fun a b => cmpE a b ≤ 0)
  | [] => List.Pairwise.nil
  | x :: l => insE_sorted x _ (sortE_sorted l)
theorem sortE_unique {xs l : List (Int × Int)} (hp : xs.Perm l) (hs : xs.Pairwise (fun a b => cmpE a b ≤ 0)) : xs = sortE l :=
  List.Perm.eq_of_pairwise (fun a b _ _ h1 h2 => cmpE_antisymm h1 h2) hs (sortE_sorted l) (hp.trans (sortE_perm l).symm)
/-- Rising, but for what stands at the place j, up to the place i. -/
def risB (i j : Int) (l : List (Int × Int)) : Prop := ∀ (p q : Nat) (x y : Int × Int), p < q → (q : Int) ≤ i → (q : Int) ≠ j → l[p]? = some x → l[q]? = some y → cmpE x y ≤ 0
theorem risB_pairwise {n : Nat} {l : List (Int × Int)} (h : risB ((n : Int) - 1) (-1) l) (hn : l.length ≤ n) : l.Pairwise (fun a b => cmpE a b ≤ 0) := by
  rw [List.pairwise_iff_getElem]
  intro i j hi hj hij
  exact h i j _ _ hij (by omega) (by omega) (List.getElem?_eq_getElem hi) (List.getElem?_eq_getElem hj)
theorem risB_enter {i : Nat} {l : List (Int × Int)} (h : risB ((i : Int) - 1) (-1) l) : risB (i : Int) (i : Int) l :=
  fun p q x y hpq hq hne hx hy => h p q x y hpq (by omega) (by omega) hx hy
theorem risB_leave {i j : Nat} {l : List (Int × Int)} (h : risB (i : Int) (j : Int) l) (hj : j = 0 ∨ ∃ x y, l[j]? = some x ∧ l[j - 1]? = some y ∧ ¬ cmpE x y < 0) : risB (((i + 1 : Nat) : Int) - 1) (-1) l := by
  intro p q x y hpq hq _ hx hy
  by_cases e : (q : Int) = (j : Int)
  · have e : q = j := by omega
    subst e
    rcases hj with h0 | ⟨x', y', h1, h2, h3⟩
    · omega
    · rw [h1] at hy; cases hy
      have hle := cmpE_total h3
      by_cases e2 : p = q - 1
      · subst e2; rw [h2] at hx; cases hx; exact hle
      · exact cmpE_trans (h p (q - 1) x y' (by omega) (by omega) (by omega) hx h2) hle
  · exact h p q x y hpq (by omega) e hx hy
theorem risB_swap {i j : Nat} {l : List (Int × Int)} {x z : Int × Int} (h : risB (i : Int) (j : Int) l) (hj : 0 < j) (hji : j ≤ i) (hil : i < l.length) (hx : l[j]? = some x) (hz : l[j - 1]? = some z) (hlt : cmpE x z < 0) :
    risB (i : Int) (((j - 1 : Nat)) : Int) ((l.set j z).set (j - 1) x) := by
  have hle : cmpE x z ≤ 0 := by omega
  have get : ∀ k, ((l.set j z).set (j - 1) x)[k]? = if k = j - 1 then some x else if k = j then some z else l[k]? := by
    intro k
    by_cases e1 : k = j - 1
    · subst e1
      rw [if_pos rfl, List.getElem?_set_self (by simp; omega)]
    · rw [if_neg e1, List.getElem?_set_ne (fun e => e1 e.symm)]
      by_cases e2 : k = j
      · subst e2
        rw [if_pos rfl, List.getElem?_set_self (by omega)]
      · rw [if_neg e2, List.getElem?_set_ne (fun e => e2 e.symm)]
  intro p q a b hpq hq hne ha hb
  rw [get] at ha hb
  have hqj : q ≠ j - 1 := by omega
  rw [if_neg hqj] at hb
  by_cases e1 : p = j - 1
  · rw [if_pos e1] at ha; cases ha
    by_cases e2 : q = j
    · rw [if_pos e2] at hb; cases hb; exact hle
    · rw [if_neg e2] at hb; exact h j q _ _ (by omega) hq (by omega) hx hb
  · rw [if_neg e1] at ha
    by_cases e2 : p = j
    · rw [if_pos e2] at ha; cases ha
      rw [if_neg (by omega)] at hb
      exact h (j - 1) q _ _ (by omega) hq (by omega) hz hb
    · rw [if_neg e2] at ha
      by_cases e3 : q = j
      · rw [if_pos e3] at hb; cases hb; exact h p (j - 1) _ _ (by omega) (by omega) (by omega) ha hz
      · rw [if_neg e3] at hb; exact h p q _ _ hpq hq (by omega) ha hb
theorem swap_perm {l : List (Int × Int)} {j : Nat} {x z : Int × Int} (hx : l[j]? = some x) (hz : l[j - 1]? = some z) : ((l.set j z).set (j - 1) x).Perm l := by
  obtain ⟨h1, rfl⟩ := List.getElem?_eq_some_iff.1 hx
  obtain ⟨h2, rfl⟩ := List.getElem?_eq_some_iff.1 hz
  exact List.set_set_perm h1 h2
theorem wrongE_nil (d : Int) : wrongE d [] = !levelB d := by simp [wrongE]
theorem wrongE_snoc (d : Int) (l : List (Int × Int)) (x : Int × Int) : wrongE d (l ++ [x]) = (wrongE d l || (!levelB x.2 || !catB x.1)) := by
  simp [wrongE, List.any_append, Bool.or_assoc]
theorem dist_ne {l m : List (Int × Int)} (hd : dist l = true) (hp : m.Perm l) {i j : Nat} {x y : Int × Int} (hij : i < j) (hx : m[i]? = some x) (hy : m[j]? = some y) : x.1 ≠ y.1 := by
  simp only [dist, Bool.and_eq_true, decide_eq_true_eq] at hd
  have hn : (m.map (·.1)).Nodup := (hp.map _).nodup_iff.2 hd.2
  obtain ⟨hi', rfl⟩ := List.getElem?_eq_some_iff.1 hx
  obtain ⟨hj', rfl⟩ := List.getElem?_eq_some_iff.1 hy
  unfold List.Nodup at hn
  rw [List.pairwise_iff_getElem] at hn
  have := hn i j (by simpa using hi') (by simpa using hj') hij
  simpa using this
end Go.Proofs.Ytlnclaggmjhbfaa
namespace Go.Proofs.Ytlnclaggmjhbfaa
set_option linter.unusedSimpArgs false
set_option linter.unusedVariables false
def SS (l : List (Int × Int)) : Prop := l.Pairwise fun x y => x.1 < y.1
theorem ss_ext : (A B : List (Int × Int)) → SS A → SS B → (∀ x, x ∈ A ↔ x ∈ B) → A = B
  | [], [], _, _, _ => rfl
  | [], y :: B, _, _, h => by have := (h y).2 (by simp); simp at this
  | x :: A, [], _, _, h => by have := (h x).1 (by simp); simp at this
  | x :: A, y :: B, hA, hB, h => by
    have hA' := List.pairwise_cons.1 hA
    have hB' := List.pairwise_cons.1 hB
    have exy : x = y := by
      rcases List.mem_cons.1 ((h x).1 (by simp)) with e | hx
      · exact e
      · rcases List.mem_cons.1 ((h y).2 (by simp)) with e | hy
        · exact e.symm
        · have := hB'.1 x hx; have := hA'.1 y hy; omega
    subst exy
    rw [ss_ext A B hA'.2 hB'.2 fun z => ?_]
    constructor
    · intro hz
      rcases List.mem_cons.1 ((h z).1 (by simp [hz])) with e | hz'
      · subst e; have := hA'.1 _ hz; omega
      · exact hz'
    · intro hz
      rcases List.mem_cons.1 ((h z).2 (by simp [hz])) with e | hz'
      · subst e; have := hB'.1 _ hz; omega
      · exact hz'
theorem srt_low {n : Int} : (l : List (Int × Int)) → srt n l → ∀ x ∈ l, n < x.1
  | [], _, x, hx => by simp at hx
  | y :: l, h, x, hx => by
    rcases List.mem_cons.1 hx with rfl | hx
    · exact h.1
    · have := srt_low l h.2 x hx; have := h.1; omega
theorem srt_ss {n : Int} : (l : List (Int × Int)) → srt n l → SS l
  | [], _ => List.Pairwise.nil
  | x :: l, h => List.Pairwise.cons (srt_low l h.2) (srt_ss l h.2)
theorem rows_ne {d : Int} : (l : List (Int × Int)) → (n : Int) → rowsR d n l = true → ∀ x ∈ l, x.2 ≠ d
  | [], _, _, x, hx => by simp at hx
  | y :: l, n, h, x, hx => by
    simp only [rowsR, Bool.and_eq_true, Bool.not_eq_true', beq_eq_false_iff_ne] at h
    rcases List.mem_cons.1 hx with rfl | hx
    · exact h.2.2.2.1
    · exact rows_ne l y.1 h.2.2.2.2 x hx
theorem rows_mem {d : Int} : (l : List (Int × Int)) → (n : Int) → rowsR d n l = true → ∀ x ∈ l, levelB x.2 = true ∧ n < x.1 ∧ x.1 ≤ maxId
  | [], _, _, x, hx => by simp at hx
  | y :: l, n, h, x, hx => by
    simp only [rowsR, Bool.and_eq_true, decide_eq_true_eq] at h
    rcases List.mem_cons.1 hx with rfl | hx
    · exact ⟨h.2.2.1, h.1, h.2.1⟩
    · have := rows_mem l y.1 h.2.2.2.2 x hx; have := h.1; exact ⟨by simp_all, by omega, by omega⟩
theorem right_mem {l : Lab} (h : rightL l = true) : ∀ x ∈ l.2, levelB x.2 = true ∧ catB x.1 = true ∧ x.2 ≠ l.1 := by
  simp only [rightL, Bool.and_eq_true] at h
  intro x hx
  have h1 := rows_mem _ _ h.2.2 x hx
  refine ⟨h1.1, ?_, rows_ne _ _ h.2.2 x hx⟩
  simp only [catB, Bool.and_eq_true, decide_eq_true_eq]
  omega
/-- What stands in a rising row at a category that it names. -/
theorem ss_at {d : Int} : (l : List (Int × Int)) → SS l → ∀ x ∈ l, atR d l x.1 = x.2
  | [], _, x, hx => by simp at hx
  | y :: l, h, x, hx => by
    have h' := List.pairwise_cons.1 h
    rcases List.mem_cons.1 hx with rfl | hx
    · simp [atR]
    · rw [at_ne (by have := h'.1 x hx; omega)]; exact ss_at l h'.2 x hx
theorem at_mem {d c : Int} : (l : List (Int × Int)) → (∃ x ∈ l, x.1 = c) → (c, atR d l c) ∈ l
  | [], h => by simp at h
  | y :: l, h => by
    by_cases e : y.1 = c
    · subst e; simp [atR]
    · rw [at_ne e]
      obtain ⟨x, hx, h⟩ := h
      rcases List.mem_cons.1 hx with rfl | hx
      · exact absurd h e
      · exact List.mem_cons_of_mem _ (at_mem l ⟨x, hx, h⟩)
/-! ### Named categories rise -/
theorem insN_sorted (c : Int) : (l : List Int) → l.Pairwise (· < ·) → (insN c l).Pairwise (· < ·)
  | [], _ => by simp [insN]
  | y :: l, h => by
    have h' := List.pairwise_cons.1 h
    simp only [insN]
    split
    · rename_i hlt
      refine List.Pairwise.cons (fun z hz => ?_) (insN_sorted c l h'.2)
      rcases (mem_insN l).1 hz with rfl | hz
      · exact hlt
      · exact h'.1 z hz
    · split
      · exact h
      · rename_i h1 h2
        refine List.Pairwise.cons (fun z hz => ?_) h
        rcases List.mem_cons.1 hz with rfl | hz
        · omega
        · have := h'.1 z hz; omega
theorem addN_sorted : (l : List (Int × Int)) → (o : List Int) → o.Pairwise (· < ·) → (addN o l).Pairwise (· < ·)
  | [], o, h => h
  | x :: l, o, h => by
    have := addN_sorted l (insN x.1 o) (insN_sorted _ _ h)
    simpa [addN] using this
theorem named_sorted (ls : List Lab) : (namedL ls).Pairwise (· < ·) := by
  have : ∀ (ls : List Lab) (o : List Int), o.Pairwise (· < ·) → (ls.foldl (fun o l => addN o l.2) o).Pairwise (· < ·) := by
    intro ls
    induction ls with
    | nil => intro o h; exact h
    | cons l ls ih => intro o h; rw [List.foldl_cons]; exact ih _ (addN_sorted _ _ h)
  exact this ls [] List.Pairwise.nil
theorem build_mem {d : Int} {g : Int → Int} {cs : List Int} {x : Int × Int} : x ∈ buildR d g cs ↔ x.1 ∈ cs ∧ x.2 = g x.1 ∧ x.2 ≠ d := by
  simp only [buildR, List.mem_filterMap]
  constructor
  · rintro ⟨c, hc, h⟩
    split at h
    · cases h
    · rename_i hne; cases h; exact ⟨hc, rfl, hne⟩
  · rintro ⟨h1, h2, h3⟩
    refine ⟨x.1, h1, ?_⟩
    rw [if_neg (by rw [← h2]; exact h3), ← h2]
theorem build_ss {d : Int} {g : Int → Int} {cs : List Int} (h : cs.Pairwise (· < ·)) : SS (buildR d g cs) := by
  unfold SS buildR
  rw [List.pairwise_filterMap]
  refine h.imp ?_
  intro a b hab x hx y hy
  split at hx <;> cases hx
  split at hy <;> cases hy
  exact hab
theorem sort_mem {l : List (Int × Int)} {x : Int × Int} : x ∈ sortE l ↔ x ∈ l := (sortE_perm l).mem_iff
theorem sort_ss {l : List (Int × Int)} (h : (l.map (·.1)).Nodup) : SS (sortE l) := by
  have h1 := sortE_sorted l
  have h2 : ((sortE l).map (·.1)).Nodup := ((sortE_perm l).map _).nodup_iff.2 h
  unfold List.Nodup at h2
  rw [List.pairwise_map] at h2
  refine (h1.and h2).imp ?_
  rintro a b ⟨h3, h4⟩
  rw [cmpE_le] at h3
  have : a.1 ≠ b.1 := h4
  omega
theorem ss_nodup {l : List (Int × Int)} (h : SS l) : (l.map (·.1)).Nodup := by
  unfold List.Nodup
  rw [List.pairwise_map]
  exact h.imp fun h => by omega
/-! ### With -/
theorem with_eq {l : Lab} {k v : Int} (hl : rightL l = true) (hk : catB k = true) (hv : levelB v = true) (hn : namedB l k = false) : withL l k v = withNL l k v := by
  have hne : ∀ x ∈ l.2, x.1 ≠ k := by
    intro x hx e
    have : namedB l k = true := List.any_eq_true.2 ⟨x, hx, by simpa using e⟩
    rw [hn] at this; cases this
  have hss := srt_ss _ (right_srt hl)
  have hw : wrongE l.1 (l.2 ++ [(k, v)]) = false := by
    rw [wrongE_snoc, hk, hv]
    have h1 : levelB l.1 = true := levelB_iff.2 (right_def hl)
    have h2 : (l.2.any fun x => !levelB x.2 || !catB x.1) = false := by
      rw [List.any_eq_false]
      intro x hx
      have := right_mem hl x hx
      simp [this.1, this.2.1]
    simp [wrongE, h1, h2]
  have hrow : ((sortE (l.2 ++ [(k, v)])).filter fun x => !(x.2 == l.1)) = buildR l.1 (fun c => if c = k then v else atL l c) (namedL [l, (0, [(k, v)])]) := by
    refine ss_ext _ _ ?_ (build_ss (named_sorted _)) fun x => ?_
    · refine List.Pairwise.filter _ (sort_ss ?_)
      rw [List.map_append, List.nodup_append]
      refine ⟨ss_nodup hss, by simp, ?_⟩
      intro a ha b hb
      simp only [List.map_cons, List.map_nil, List.mem_singleton] at hb
      obtain ⟨x, hx, rfl⟩ := List.mem_map.1 ha
      rw [hb]; exact hne x hx
    · rw [List.mem_filter, sort_mem, build_mem, mem_namedL, List.mem_append, List.mem_singleton]
      simp only [Bool.not_eq_true', beq_eq_false_iff_ne, List.mem_cons, List.not_mem_nil, or_false, exists_eq_or_imp, exists_eq_left]
      constructor
      · rintro ⟨h | h, h2⟩
        · refine ⟨.inl ⟨x, h, rfl⟩, ?_, h2⟩
          rw [if_neg (hne x h)]
          exact (ss_at _ hss x h).symm
        · subst h; exact ⟨.inr rfl, by simp, h2⟩
      · rintro ⟨h1, h2, h3⟩
        refine ⟨?_, h3⟩
        by_cases e : x.1 = k
        · rw [if_pos e] at h2; exact .inr (Prod.ext e h2)
        · rw [if_neg e] at h2
          rcases h1 with h1 | h1
          · left
            have := at_mem (d := l.1) l.2 h1
            rw [show x = (x.1, atR l.1 l.2 x.1) from Prod.ext rfl h2]; exact this
          · exact absurd h1.symm e
  simp only [withL, withNL, hk, hv, Bool.and_self, cond_true, makeE, hw, cond_false, hrow]
/-! ### The floor -/
theorem mrg_mem {d e : Int} : (n : Nat) → (A B : List (Int × Int)) → (m : Int) → 0 ≤ m → srt m A → srt m B → A.length + B.length ≤ n → ∀ x, x ∈ mrg d e n A B ↔ ((∃ y ∈ A, y.1 = x.1) ∨ ∃ y ∈ B, y.1 = x.1) ∧ x.2.1 = atR d A x.1 ∧ x.2.2 = atR e B x.1
  | 0, [], [], m, _, _, _, _ => by intro x; simp [mrg]
  | 0, x :: A, B, m, _, _, _, h => by simp at h
  | 0, [], y :: B, m, _, _, _, h => by simp at h
  | n + 1, [], [], m, _, _, _, _ => by intro x; simp [mrg]
  | n + 1, a :: A, [], m, hm, hA, hB, h => by
    intro x
    have h1 := hA.1
    have ih := mrg_mem (d := d) (e := e) n A [] a.1 (by omega) hA.2 trivial (by simp at h ⊢; omega) x
    simp only [mrg, List.mem_cons, ih, List.not_mem_nil, false_and, exists_false, or_false, exists_eq_or_imp]
    have hmx : max a.1 0 = a.1 := by omega
    rw [hmx]
    constructor
    · rintro (rfl | ⟨⟨y, hy, h2⟩, h3, h4⟩)
      · exact ⟨.inl rfl, by simp [atR], rfl⟩
      · have := srt_low _ hA.2 y hy
        exact ⟨.inr ⟨y, hy, h2⟩, by rw [at_ne (by omega)]; exact h3, h4⟩
    · rintro ⟨h2, h3, h4⟩
      by_cases e1 : a.1 = x.1
      · left; simp only [atR, e1, beq_self_eq_true, if_true] at h3 h4
        exact Prod.ext e1.symm (Prod.ext h3 h4)
      · right; rw [at_ne e1] at h3
        exact ⟨h2.resolve_left e1, h3, h4⟩
  | n + 1, [], b :: B, m, hm, hA, hB, h => by
    intro x
    have h1 := hB.1
    have ih := mrg_mem (d := d) (e := e) n [] B b.1 (by omega) trivial hB.2 (by simp at h ⊢; omega) x
    simp only [mrg, List.mem_cons, ih, List.not_mem_nil, false_and, exists_false, false_or, exists_eq_or_imp]
    have hmx : max 0 b.1 = b.1 := by omega
    rw [hmx]
    constructor
    · rintro (rfl | ⟨⟨y, hy, h2⟩, h3, h4⟩)
      · exact ⟨.inl rfl, rfl, by simp [atR]⟩
      · have := srt_low _ hB.2 y hy
        exact ⟨.inr ⟨y, hy, h2⟩, h3, by rw [at_ne (by omega)]; exact h4⟩
    · rintro ⟨h2, h3, h4⟩
      by_cases e1 : b.1 = x.1
      · left; simp only [atR, e1, beq_self_eq_true, if_true] at h3 h4
        exact Prod.ext e1.symm (Prod.ext h3 h4)
      · right; rw [at_ne e1] at h4
        exact ⟨h2.resolve_left e1, h3, h4⟩
  | n + 1, a :: A, b :: B, m, hm, hA, hB, h => by
    intro x
    have h1 := hA.1
    have h1' := hB.1
    simp only [mrg]
    split
    · rename_i hlt
      have ih := mrg_mem (d := d) (e := e) n A (b :: B) a.1 (by omega) hA.2 ⟨hlt, hB.2⟩ (by simp at h ⊢; omega) x
      have hbx : atR e (b :: B) a.1 = e := at_low (n := a.1) (b :: B) ⟨hlt, hB.2⟩ (Int.le_refl _)
      have hmx : max a.1 0 = a.1 := by omega
      rw [List.mem_cons, ih, hmx]
      constructor
      · rintro (rfl | ⟨h2, h3, h4⟩)
        · exact ⟨.inl ⟨a, by simp, rfl⟩, by simp [atR], hbx.symm⟩
        · have hax : a.1 ≠ x.1 := by
            rcases h2 with ⟨y, hy, h2⟩ | ⟨y, hy, h2⟩
            · have := srt_low _ hA.2 y hy; omega
            · have := srt_low (n := a.1) (b :: B) ⟨hlt, hB.2⟩ y hy; omega
          refine ⟨?_, by rw [at_ne hax]; exact h3, h4⟩
          rcases h2 with ⟨y, hy, h2⟩ | h2
          · exact .inl ⟨y, by simp [hy], h2⟩
          · exact .inr h2
      · rintro ⟨h2, h3, h4⟩
        by_cases e1 : a.1 = x.1
        · left; rw [← e1] at h4; rw [hbx] at h4
          simp only [atR, e1, beq_self_eq_true, if_true] at h3
          exact Prod.ext e1.symm (Prod.ext h3 h4)
        · right; rw [at_ne e1] at h3
          refine ⟨?_, h3, h4⟩
          rcases h2 with ⟨y, hy, h2⟩ | h2
          · rcases List.mem_cons.1 hy with rfl | hy
            · exact absurd h2 e1
            · exact .inl ⟨y, hy, h2⟩
          · exact .inr h2
    · split
      · rename_i _ hlt
        have ih := mrg_mem (d := d) (e := e) n (a :: A) B b.1 (by omega) ⟨hlt, hA.2⟩ hB.2 (by simp at h ⊢; omega) x
        have hbx : atR d (a :: A) b.1 = d := at_low (n := b.1) (a :: A) ⟨hlt, hA.2⟩ (Int.le_refl _)
        have hmx : max 0 b.1 = b.1 := by omega
        rw [List.mem_cons, ih, hmx]
        constructor
        · rintro (rfl | ⟨h2, h3, h4⟩)
          · exact ⟨.inr ⟨b, by simp, rfl⟩, hbx.symm, by simp [atR]⟩
          · have hax : b.1 ≠ x.1 := by
              rcases h2 with ⟨y, hy, h2⟩ | ⟨y, hy, h2⟩
              · have := srt_low (n := b.1) (a :: A) ⟨hlt, hA.2⟩ y hy; omega
              · have := srt_low _ hB.2 y hy; omega
            refine ⟨?_, h3, by rw [at_ne hax]; exact h4⟩
            rcases h2 with h2 | ⟨y, hy, h2⟩
            · exact .inl h2
            · exact .inr ⟨y, by simp [hy], h2⟩
        · rintro ⟨h2, h3, h4⟩
          by_cases e1 : b.1 = x.1
          · left; rw [← e1] at h3; rw [hbx] at h3
            simp only [atR, e1, beq_self_eq_true, if_true] at h4
            exact Prod.ext e1.symm (Prod.ext h3 h4)
          · right; rw [at_ne e1] at h4
            refine ⟨?_, h3, h4⟩
            rcases h2 with h2 | ⟨y, hy, h2⟩
            · exact .inl h2
            · rcases List.mem_cons.1 hy with rfl | hy
              · exact absurd h2 e1
              · exact .inr ⟨y, hy, h2⟩
      · rename_i g1 g2
        have exy : a.1 = b.1 := by omega
        have ih := mrg_mem (d := d) (e := e) n A B a.1 (by omega) hA.2 (by rw [exy]; exact hB.2) (by simp at h ⊢; omega) x
        have hmx : max a.1 b.1 = a.1 := by omega
        rw [List.mem_cons, ih, hmx]
        constructor
        · rintro (rfl | ⟨h2, h3, h4⟩)
          · exact ⟨.inl ⟨a, by simp, rfl⟩, by simp [atR], by simp [atR, exy]⟩
          · have hax : a.1 ≠ x.1 := by
              rcases h2 with ⟨y, hy, h2⟩ | ⟨y, hy, h2⟩
              · have := srt_low _ hA.2 y hy; omega
              · have := srt_low _ hB.2 y hy; omega
            refine ⟨?_, by rw [at_ne hax]; exact h3, by rw [at_ne (by omega)]; exact h4⟩
            rcases h2 with ⟨y, hy, h2⟩ | ⟨y, hy, h2⟩
            · exact .inl ⟨y, by simp [hy], h2⟩
            · exact .inr ⟨y, by simp [hy], h2⟩
        · rintro ⟨h2, h3, h4⟩
          by_cases e1 : a.1 = x.1
          · left
            have e2 : b.1 = x.1 := by omega
            simp only [atR, e1, e2, beq_self_eq_true, if_true] at h3 h4
            exact Prod.ext e1.symm (Prod.ext h3 h4)
          · right; rw [at_ne e1] at h3; rw [at_ne (by omega)] at h4
            refine ⟨?_, h3, h4⟩
            rcases h2 with ⟨y, hy, h2⟩ | ⟨y, hy, h2⟩
            · rcases List.mem_cons.1 hy with rfl | hy
              · exact absurd h2 e1
              · exact .inl ⟨y, hy, h2⟩
            · rcases List.mem_cons.1 hy with rfl | hy
              · omega
              · exact .inr ⟨y, hy, h2⟩
theorem mrg_sorted {d e : Int} : (n : Nat) → (A B : List (Int × Int)) → (m : Int) → 0 ≤ m → srt m A → srt m B → A.length + B.length ≤ n → (mrg d e n A B).Pairwise (fun x y => x.1 < y.1)
  | 0, [], [], m, _, _, _, _ => by simp [mrg]
  | 0, x :: A, B, m, _, _, _, h => by simp at h
  | 0, [], y :: B, m, _, _, _, h => by simp at h
  | n + 1, [], [], m, _, _, _, _ => by simp [mrg]
  | n + 1, a :: A, [], m, hm, hA, hB, h => by
    have h1 := hA.1
    simp only [mrg]
    refine List.Pairwise.cons (fun x hx => ?_) (mrg_sorted n A [] a.1 (by omega) hA.2 trivial (by simp at h ⊢; omega))
    rcases ((mrg_mem n A [] a.1 (by omega) hA.2 trivial (by simp at h ⊢; omega) x).1 hx).1 with ⟨y, hy, h2⟩ | ⟨y, hy, h2⟩
    · have := srt_low _ hA.2 y hy; show max a.1 0 < x.1; omega
    · simp at hy
  | n + 1, [], b :: B, m, hm, hA, hB, h => by
    have h1 := hB.1
    simp only [mrg]
    refine List.Pairwise.cons (fun x hx => ?_) (mrg_sorted n [] B b.1 (by omega) trivial hB.2 (by simp at h ⊢; omega))
    rcases ((mrg_mem n [] B b.1 (by omega) trivial hB.2 (by simp at h ⊢; omega) x).1 hx).1 with ⟨y, hy, h2⟩ | ⟨y, hy, h2⟩
    · simp at hy
    · have := srt_low _ hB.2 y hy; show max 0 b.1 < x.1; omega
  | n + 1, a :: A, b :: B, m, hm, hA, hB, h => by
    have h1 := hA.1
    have h1' := hB.1
    simp only [mrg]
    split
    · rename_i hlt
      refine List.Pairwise.cons (fun x hx => ?_) (mrg_sorted n A (b :: B) a.1 (by omega) hA.2 ⟨hlt, hB.2⟩ (by simp at h ⊢; omega))
      rcases ((mrg_mem n A (b :: B) a.1 (by omega) hA.2 ⟨hlt, hB.2⟩ (by simp at h ⊢; omega) x).1 hx).1 with ⟨y, hy, h2⟩ | ⟨y, hy, h2⟩
      · have := srt_low _ hA.2 y hy; show max a.1 0 < x.1; omega
      · have := srt_low (n := a.1) (b :: B) ⟨hlt, hB.2⟩ y hy; show max a.1 0 < x.1; omega
    · split
      · rename_i _ hlt
        refine List.Pairwise.cons (fun x hx => ?_) (mrg_sorted n (a :: A) B b.1 (by omega) ⟨hlt, hA.2⟩ hB.2 (by simp at h ⊢; omega))
        rcases ((mrg_mem n (a :: A) B b.1 (by omega) ⟨hlt, hA.2⟩ hB.2 (by simp at h ⊢; omega) x).1 hx).1 with ⟨y, hy, h2⟩ | ⟨y, hy, h2⟩
        · have := srt_low (n := b.1) (a :: A) ⟨hlt, hA.2⟩ y hy; show max 0 b.1 < x.1; omega
        · have := srt_low _ hB.2 y hy; show max 0 b.1 < x.1; omega
      · rename_i g1 g2
        have exy : a.1 = b.1 := by omega
        refine List.Pairwise.cons (fun x hx => ?_) (mrg_sorted n A B a.1 (by omega) hA.2 (by rw [exy]; exact hB.2) (by simp at h ⊢; omega))
        rcases ((mrg_mem n A B a.1 (by omega) hA.2 (by rw [exy]; exact hB.2) (by simp at h ⊢; omega) x).1 hx).1 with ⟨y, hy, h2⟩ | ⟨y, hy, h2⟩
        · have := srt_low _ hA.2 y hy; show max a.1 b.1 < x.1; omega
        · have := srt_low _ hB.2 y hy; show max a.1 b.1 < x.1; omega
theorem both_mem {f : Int → Int → Int} {d : Int} {ls : List (Int × Int × Int)} {x : Int × Int} : x ∈ bothR f d ls ↔ ∃ y ∈ ls, y.1 = x.1 ∧ x.2 = f y.2.1 y.2.2 ∧ x.2 ≠ d := by
  simp only [bothR, List.mem_filterMap]
  constructor
  · rintro ⟨y, hy, h⟩
    split at h
    · cases h
    · rename_i hne; cases h; exact ⟨y, hy, rfl, rfl, hne⟩
  · rintro ⟨y, hy, h1, h2, h3⟩
    refine ⟨y, hy, ?_⟩
    rw [if_neg (by rw [← h2]; exact h3), ← h2, h1]
theorem both_ss {f : Int → Int → Int} {d : Int} {ls : List (Int × Int × Int)} (h : ls.Pairwise (fun x y => x.1 < y.1)) : SS (bothR f d ls) := by
  unfold SS bothR
  rw [List.pairwise_filterMap]
  refine h.imp ?_
  intro a b hab x hx y hy
  split at hx <;> cases hx
  split at hy <;> cases hy
  exact hab
theorem turn_mem {d a b : Int} {x : Int × Int} : (l : List (Int × Int)) → (x ∈ turnR d a b l ↔ ∃ y ∈ l, y.1 = x.1 ∧ x.2 = turn1 a b y.2 ∧ x.2 ≠ d)
  | [] => by simp [turnR]
  | y :: l => by
    have ih := turn_mem (d := d) (a := a) (b := b) (x := x) l
    simp only [turnR]
    split
    · rename_i hd
      rw [ih]
      constructor
      · rintro ⟨z, hz, h⟩; exact ⟨z, by simp [hz], h⟩
      · rintro ⟨z, hz, h1, h2, h3⟩
        rcases List.mem_cons.1 hz with rfl | hz
        · exact absurd (h2.trans hd) h3
        · exact ⟨z, hz, h1, h2, h3⟩
    · rename_i hd
      rw [List.mem_cons, ih]
      constructor
      · rintro (rfl | ⟨z, hz, h⟩)
        · exact ⟨y, by simp, rfl, rfl, hd⟩
        · exact ⟨z, by simp [hz], h⟩
      · rintro ⟨z, hz, h1, h2, h3⟩
        rcases List.mem_cons.1 hz with rfl | hz
        · exact .inl (Prod.ext h1.symm h2)
        · exact .inr ⟨z, hz, h1, h2, h3⟩
theorem turn_ss {d a b : Int} : (l : List (Int × Int)) → SS l → SS (turnR d a b l)
  | [], _ => List.Pairwise.nil
  | y :: l, h => by
    have h' := List.pairwise_cons.1 h
    simp only [turnR]
    split
    · exact turn_ss l h'.2
    · refine List.Pairwise.cons (fun x hx => ?_) (turn_ss l h'.2)
      obtain ⟨z, hz, h1, _⟩ := (turn_mem l).1 hx
      have := h'.1 z hz
      show y.1 < x.1; omega
/-- Rows by their categories: what is named, and what isn't the level of all others. -/
theorem lev_mem {a b : Lab} (ha : srt 0 a.2) (hb : srt 0 b.2) (x : Int × Int × Int) : x ∈ levL a b 0 0 ↔ ((∃ y ∈ a.2, y.1 = x.1) ∨ ∃ y ∈ b.2, y.1 = x.1) ∧ x.2.1 = atL a x.1 ∧ x.2.2 = atL b x.1 := by
  simp only [levL, List.drop_zero, Nat.sub_zero]
  exact mrg_mem _ _ _ 0 (by omega) ha hb (by omega) x
theorem lev_sorted {a b : Lab} (ha : srt 0 a.2) (hb : srt 0 b.2) : (levL a b 0 0).Pairwise (fun x y => x.1 < y.1) := by
  simp only [levL, List.drop_zero, Nat.sub_zero]
  exact mrg_sorted _ _ _ 0 (by omega) ha hb (by omega)
theorem floorC_eq {x y : Int} (hx : 0 ≤ x ∧ x ≤ 5) (hy : 0 ≤ y ∧ y ≤ 5) : floorC x y = turn1 5 0 (max (turn1 0 5 x) (turn1 0 5 y)) := by
  unfold floorC turn1
  (repeat' split) <;> omega
theorem join_row {t g : Lab} (ht : rightL t = true) (hg : rightL g = true) : bothR max (max (upL t).1 (upL g).1) (levL (upL t) (upL g) 0 0) = upR t g := by
  have st := right_srt ht; have sg := right_srt hg
  refine ss_ext _ _ (both_ss (lev_sorted (up_srt st) (up_srt sg))) (build_ss (named_sorted _)) fun x => ?_
  rw [both_mem, upR, build_mem]
  have hnz : x.1 ∈ namedL [t, g] → x.1 ≠ 0 := named_pos (by intro l hl; simp at hl; rcases hl with rfl | rfl <;> assumption)
  have hmem : ∀ (l : Lab), srt 0 l.2 → (∃ y ∈ (upL l).2, y.1 = x.1) → ∃ y ∈ l.2, y.1 = x.1 := by
    rintro l _ ⟨y, hy, h⟩
    obtain ⟨z, hz, h1, _⟩ := (turn_mem l.2).1 hy
    exact ⟨z, hz, h1.trans h⟩
  constructor
  · rintro ⟨y, hy, h1, h2, h3⟩
    rw [lev_mem (up_srt st) (up_srt sg)] at hy
    obtain ⟨g1, g2, g3⟩ := hy
    have hn : x.1 ∈ namedL [t, g] := by
      rw [h1] at g1
      rw [mem_namedL]
      rcases g1 with g1 | g1
      · exact ⟨t, by simp, hmem t st g1⟩
      · exact ⟨g, by simp, hmem g sg g1⟩
    refine ⟨hn, ?_, h3⟩
    rw [at0_eq (hnz hn), at0_eq (hnz hn), h2, g2, g3, h1]
  · rintro ⟨h1, h2, h3⟩
    rw [at0_eq (hnz h1), at0_eq (hnz h1)] at h2
    refine ⟨(x.1, atL (upL t) x.1, atL (upL g) x.1), (lev_mem (up_srt st) (up_srt sg) _).2 ⟨?_, rfl, rfl⟩, rfl, h2, h3⟩
    rcases Classical.em (∃ y ∈ (upL t).2, y.1 = x.1) with h | h
    · exact .inl h
    · right
      refine Classical.byContradiction fun h' => h3 ?_
      have e1 : atL (upL t) x.1 = (upL t).1 := at_not _ fun y hy e => h ⟨y, hy, e⟩
      have e2 : atL (upL g) x.1 = (upL g).1 := at_not _ fun y hy e => h' ⟨y, hy, e⟩
      rw [h2, e1, e2]
theorem floor_row {t g : Lab} (ht : rightL t = true) (hg : rightL g = true) : floorL t g = floorNL t g := by
  have st := right_srt ht; have sg := right_srt hg
  have hnz : ∀ c, c ∈ namedL [t, g] → c ≠ 0 := fun c => named_pos (by intro l hl; simp at hl; rcases hl with rfl | rfl <;> assumption)
  have hd : turn1 5 0 (max (upL t).1 (upL g).1) = floorN t g 0 := (floorC_eq (right_def ht) (right_def hg)).symm
  have hr : turnR (floorN t g 0) 5 0 (upR t g) = buildR (floorN t g 0) (fun k => floorN t g k) (namedL [t, g]) := by
    refine ss_ext _ _ (turn_ss _ (build_ss (named_sorted _))) (build_ss (named_sorted _)) fun x => ?_
    rw [turn_mem, build_mem]
    have hf : ∀ c, c ≠ 0 → floorN t g c = turn1 5 0 (max (atL (upL t) c) (atL (upL g) c)) := by
      intro c hc
      rw [up_at st, up_at sg, floorN, at0_eq hc, at0_eq hc]
      exact floorC_eq (right_at ht c) (right_at hg c)
    constructor
    · rintro ⟨y, hy, h1, h2, h3⟩
      rw [upR, build_mem] at hy
      obtain ⟨g1, g2, g3⟩ := hy
      have hz := hnz _ g1
      rw [h1] at g1 g2 hz
      rw [at0_eq hz, at0_eq hz] at g2
      exact ⟨g1, by rw [h2, g2, hf _ hz], h3⟩
    · rintro ⟨h1, h2, h3⟩
      have hz := hnz _ h1
      have h2' := h2
      rw [hf _ hz] at h2
      refine ⟨(x.1, max (atL (upL t) x.1) (atL (upL g) x.1)), ?_, rfl, h2, h3⟩
      rw [upR, build_mem]
      refine ⟨h1, by rw [at0_eq hz, at0_eq hz], fun e => h3 ?_⟩
      have e : max (atL (upL t) x.1) (atL (upL g) x.1) = max (upL t).1 (upL g).1 := e
      rw [h2, e, hd]
  simp only [floorL, floorNL, bothL, join_row ht hg, wholeL]
  by_cases h : 16 < (upR t g).length
  · simp [h]
  · simp only [h, decide_false, cond_false]
    simp only [ne_eq, not_true_eq_false, if_false, downL, turnL, hd, hr]
theorem whole_err (l : Lab) : (wholeL l).2 = 0 ∨ (wholeL l).2 = 7 := by
  unfold wholeL
  cases decide (16 < l.2.length) <;> simp
theorem withN_err {l : Lab} {k v : Int} (hk : catB k = true) (hv : levelB v = true) : (withNL l k v).2 = 0 ∨ (withNL l k v).2 = 7 := by
  simp only [withNL, hk, hv, Bool.and_self, cond_true]; exact whole_err _
theorem own_eq {t c : Lab} {k : Int} (ht : rightL t = true) (hc : rightL c = true) : ownL t c k = ownNL t c k := by
  have hn : (namedL [t, c]).any (fun x => x == k) = (namedB t k || namedB c k) := by
    rw [Bool.eq_iff_iff, List.any_eq_true, Bool.or_eq_true]
    simp only [namedB, List.any_eq_true, beq_iff_eq]
    constructor
    · rintro ⟨x, hx, rfl⟩
      obtain ⟨l, hl, y, hy, h⟩ := (mem_namedL _).1 hx
      simp at hl
      rcases hl with rfl | rfl
      · exact .inl ⟨y, hy, h⟩
      · exact .inr ⟨y, hy, h⟩
    · rintro (⟨y, hy, h⟩ | ⟨y, hy, h⟩)
      · exact ⟨k, (mem_namedL _).2 ⟨t, by simp, y, hy, h⟩, rfl⟩
      · exact ⟨k, (mem_namedL _).2 ⟨c, by simp, y, hy, h⟩, rfl⟩
  unfold ownL ownNL
  rw [hn]
  cases hk : catB k
  · rfl
  · cases h1 : namedB t k
    · cases h2 : namedB c k
      · simp only [Bool.not_true, cond_false, Bool.or_self]
        rw [with_eq ht hk rfl h1, with_eq hc hk rfl h2]
        rcases withN_err (l := t) (v := 0) hk rfl with e1 | e1 <;> rcases withN_err (l := c) (v := 4) hk rfl with e2 | e2 <;> simp [e1, e2]
      · simp
    · simp
theorem right_few {l : Lab} (h : rightL l = true) : l.2.length < 19 ∧ (l.2.map (·.1)).Nodup := by
  have := right_len h
  exact ⟨by omega, ss_nodup (srt_ss _ (right_srt h))⟩
end Go.Proofs.Ytlnclaggmjhbfaa
namespace Go.Proofs.Ytlnclaggmjhbfaa
set_option linter.unusedSimpArgs false
set_option linter.unusedVariables false
theorem right_ext {a b : Lab} (ha : rightL a = true) (hb : rightL b = true) (hd : a.1 = b.1) (h : ∀ c, atL a c = atL b c) : a = b := by
  have sa := srt_ss _ (right_srt ha)
  have sb := srt_ss _ (right_srt hb)
  have key : ∀ {a b : Lab}, rightL a = true → a.1 = b.1 → (∀ c, atL a c = atL b c) → ∀ x ∈ a.2, x ∈ b.2 := by
    intro a b ha hd h x hx
    have h1 : atL a x.1 = x.2 := ss_at _ (srt_ss _ (right_srt ha)) x hx
    have h2 := (right_mem ha x hx).2.2
    rw [h x.1] at h1
    have h3 : ∃ y ∈ b.2, y.1 = x.1 := by
      refine Classical.byContradiction fun hn => h2 ?_
      rw [← h1, hd]
      exact at_not _ fun y hy e => hn ⟨y, hy, e⟩
    have h4 : (x.1, atL b x.1) ∈ b.2 := at_mem _ h3
    rw [h1] at h4
    exact h4
  refine Prod.ext hd (ss_ext _ _ sa sb fun x => ⟨key ha hd h x, key hb hd.symm (fun c => (h c).symm) x⟩)
theorem leqA_refl (a : Lab) : leqA a a := ⟨Int.le_refl _, fun _ => Int.le_refl _⟩
theorem leqA_antisymm {a b : Lab} (ha : rightL a = true) (hb : rightL b = true) (h1 : leqA a b) (h2 : leqA b a) : a = b :=
  right_ext ha hb (Int.le_antisymm h1.1 h2.1) fun c => Int.le_antisymm (h1.2 c) (h2.2 c)
theorem leqM_refl {a : Lab} (ha : rightL a = true) : leqM a a = true := (leqM_iff (right_srt ha) (right_srt ha)).2 (leqA_refl a)
theorem leqM_same {a b : Lab} (ha : rightL a = true) (hb : rightL b = true) (h : leqM a b = true) : leqM b a = sameL a b := by
  have sa := right_srt ha; have sb := right_srt hb
  rw [leqM_iff sa sb] at h
  rw [Bool.eq_iff_iff, leqM_iff sb sa, sameL, decide_eq_true_eq]
  constructor
  · intro h2; exact leqA_antisymm ha hb h h2
  · rintro rfl; exact leqA_refl a
theorem leqM_trans {a b c : Lab} (ha : rightL a = true) (hb : rightL b = true) (hc : rightL c = true) (h1 : leqM a b = true) (h2 : leqM b c = true) : leqM a c = true := by
  have sa := right_srt ha; have sb := right_srt hb; have sc := right_srt hc
  rw [leqM_iff sa sb] at h1
  rw [leqM_iff sb sc] at h2
  rw [leqM_iff sa sc]
  exact leqA_trans h1 h2
theorem down_up {t : Lab} (ht : plainL t = true) : downL (upL t) = t := by
  have rt := plain_right ht
  have st := right_srt rt
  have h5 : ∀ x ∈ t.2, x.2 ≠ 5 := by
    intro x hx e
    have h1 : atL t x.1 = x.2 := ss_at _ (srt_ss _ st) x hx
    have := plain_at ht x.1
    rw [h1] at this; omega
  have hd : turn1 5 0 (turn1 0 5 t.1) = t.1 := by have := plain_def ht; unfold turn1; (repeat' split) <;> omega
  refine Prod.ext hd (ss_ext _ _ (turn_ss _ (turn_ss _ (srt_ss _ st))) (srt_ss _ st) fun x => ?_)
  show x ∈ turnR (turn1 5 0 (turn1 0 5 t.1)) 5 0 (turnR (turn1 0 5 t.1) 0 5 t.2) ↔ _
  rw [hd, turn_mem]
  constructor
  · rintro ⟨y, hy, h1, h2, h3⟩
    obtain ⟨z, hz, g1, g2, g3⟩ := (turn_mem _).1 hy
    have := h5 z hz
    have e : x.2 = z.2 := by rw [h2, g2]; unfold turn1; (repeat' split) <;> omega
    rw [show x = z from Prod.ext (by rw [← h1, g1]) e]
    exact hz
  · intro hx
    have h1 := h5 x hx
    have h2 := (right_mem rt x hx).2.2
    have h3 := plain_def ht
    refine ⟨(x.1, turn1 0 5 x.2), (turn_mem _).2 ⟨x, hx, rfl, rfl, ?_⟩, rfl, ?_, h2⟩
    · show turn1 0 5 x.2 ≠ turn1 0 5 t.1
      unfold turn1; (repeat' split) <;> omega
    · show x.2 = turn1 5 0 (turn1 0 5 x.2)
      unfold turn1; (repeat' split) <;> omega
theorem sees_iff {t o : Lab} (ht : rightL t = true) (ho : rightL o = true) : seesM t o = true ↔ leqA o (upL t) := by
  rw [seesM, leqM_iff (right_srt ho) (up_srt (right_srt ht))]
theorem up_free_def {l : Lab} (h : freeL l = true) : (upL l).1 = l.1 := by
  have := free_def h
  rw [up_def]; unfold turn1; rw [if_neg (by omega)]
theorem sees_up {t u o : Lab} (ht : freeL t = true) (hu : freeL u = true) (ho : rightL o = true) (h : leqM t u = true) (hs : seesM t o = true) : seesM u o = true := by
  have rt := plain_right (free_plain ht); have ru := plain_right (free_plain hu)
  rw [sees_iff rt ho] at hs
  rw [sees_iff ru ho]
  rw [leqM_iff (right_srt rt) (right_srt ru)] at h
  refine ⟨?_, fun c => ?_⟩
  · have := hs.1; rw [up_free_def ht] at this; rw [up_free_def hu]; exact Int.le_trans this h.1
  · have := hs.2 c; rw [up_free ht] at this; rw [up_free hu]; exact Int.le_trans this (h.2 c)
theorem alters_same {t o : Lab} (ht : freeL t = true) (ho : rightL o = true) (h : altersM t o = true) : t = o := by
  have rt := plain_right (free_plain ht)
  rw [altersM, Bool.and_eq_true, sees_iff rt ho, leqM_iff (right_srt rt) (right_srt ho)] at h
  refine leqA_antisymm rt ho h.1 ⟨?_, fun c => ?_⟩
  · have := h.2.1; rwa [up_free_def ht] at this
  · have := h.2.2 c; rwa [up_free ht] at this
end Go.Proofs.Ytlnclaggmjhbfaa
namespace Go.Proofs.Ytlnclaggmjhbfaa
set_option linter.unusedSimpArgs false
set_option linter.unusedVariables false
theorem both_row {f : Int → Int → Int} {a b : Lab} (ha : rightL a = true) (hb : rightL b = true) : bothR f (f a.1 b.1) (levL a b 0 0) = buildR (f a.1 b.1) (fun k => f (atL a k) (atL b k)) (namedL [a, b]) := by
  have sa := right_srt ha; have sb := right_srt hb
  refine ss_ext _ _ (both_ss (lev_sorted sa sb)) (build_ss (named_sorted _)) fun x => ?_
  rw [both_mem, build_mem, mem_namedL]
  constructor
  · rintro ⟨y, hy, h1, h2, h3⟩
    obtain ⟨g1, g2, g3⟩ := (lev_mem sa sb y).1 hy
    rw [h1] at g1 g2 g3
    refine ⟨?_, by rw [h2, g2, g3], h3⟩
    rcases g1 with ⟨z, hz, e⟩ | ⟨z, hz, e⟩
    · exact ⟨a, by simp, z, hz, e⟩
    · exact ⟨b, by simp, z, hz, e⟩
  · rintro ⟨⟨l, hl, z, hz, e⟩, h2, h3⟩
    refine ⟨(x.1, atL a x.1, atL b x.1), (lev_mem sa sb _).2 ⟨?_, rfl, rfl⟩, rfl, h2, h3⟩
    simp at hl
    rcases hl with rfl | rfl
    · exact .inl ⟨z, hz, e⟩
    · exact .inr ⟨z, hz, e⟩
theorem both_at {f : Int → Int → Int} {a b : Lab} (ha : rightL a = true) (hb : rightL b = true) (c : Int) : atR (f a.1 b.1) (bothR f (f a.1 b.1) (levL a b 0 0)) c = f (atL a c) (atL b c) := by
  have sa := right_srt ha; have sb := right_srt hb
  have hss := both_ss (f := f) (d := f a.1 b.1) (lev_sorted sa sb)
  by_cases hd : f (atL a c) (atL b c) = f a.1 b.1
  · rw [hd]
    refine at_not _ fun x hx e => ?_
    obtain ⟨y, hy, h1, h2, h3⟩ := both_mem.1 hx
    obtain ⟨_, g2, g3⟩ := (lev_mem sa sb y).1 hy
    rw [h1, e] at g2 g3
    rw [h2, g2, g3] at h3
    exact h3 hd
  · have hm : (c, f (atL a c) (atL b c)) ∈ bothR f (f a.1 b.1) (levL a b 0 0) := by
      refine both_mem.2 ⟨(c, atL a c, atL b c), (lev_mem sa sb _).2 ⟨?_, rfl, rfl⟩, rfl, rfl, hd⟩
      refine Classical.byContradiction fun hn => hd ?_
      have e1 : atL a c = a.1 := at_not _ fun y hy e => hn (.inl ⟨y, hy, e⟩)
      have e2 : atL b c = b.1 := at_not _ fun y hy e => hn (.inr ⟨y, hy, e⟩)
      rw [e1, e2]
    exact ss_at _ hss _ hm
theorem whole_zero {l : Lab} (h : (wholeL l).2 = 0) : (wholeL l).1 = l := by
  unfold wholeL at h ⊢
  by_cases g : 16 < l.2.length
  · simp [g] at h
  · simp [g]
theorem srt_of_ss {n : Int} : (l : List (Int × Int)) → SS l → (∀ x ∈ l, n < x.1) → srt n l
  | [], _, _ => trivial
  | x :: l, h, hl => ⟨hl x (by simp), srt_of_ss l (List.pairwise_cons.1 h).2 fun y hy => (List.pairwise_cons.1 h).1 y hy⟩
theorem both_srt {f : Int → Int → Int} {a b : Lab} (ha : rightL a = true) (hb : rightL b = true) : srt 0 (bothR f (f a.1 b.1) (levL a b 0 0)) := by
  have sa := right_srt ha; have sb := right_srt hb
  refine srt_of_ss _ (both_ss (lev_sorted sa sb)) fun x hx => ?_
  obtain ⟨y, hy, h1, _⟩ := both_mem.1 hx
  obtain ⟨g1, _⟩ := (lev_mem sa sb y).1 hy
  rcases g1 with ⟨z, hz, e⟩ | ⟨z, hz, e⟩
  · have := srt_low _ sa z hz; omega
  · have := srt_low _ sb z hz; omega
/-- What a join or a meet that isn't too long has at each category. -/
theorem both_ok {f : Int → Int → Int} {a b : Lab} (ha : rightL a = true) (hb : rightL b = true) (h : (bothL f a b).2 = 0) :
    (bothL f a b).1.1 = f a.1 b.1 ∧ (∀ c, atL (bothL f a b).1 c = f (atL a c) (atL b c)) ∧ srt 0 (bothL f a b).1.2 := by
  unfold bothL at h ⊢
  rw [whole_zero h]
  exact ⟨rfl, fun c => both_at ha hb c, both_srt ha hb⟩
theorem leqM_A {a b : Lab} (ha : srt 0 a.2) (hb : srt 0 b.2) : leqM a b = true ↔ leqA a b := leqM_iff ha hb
theorem join_le {a b c : Lab} (ha : rightL a = true) (hb : rightL b = true) (hc : rightL c = true) (h : (bothL max a b).2 = 0) :
    leqM a (bothL max a b).1 = true ∧ leqM b (bothL max a b).1 = true ∧ (leqM a c = true → leqM b c = true → leqM (bothL max a b).1 c = true) := by
  obtain ⟨h1, h2, h3⟩ := both_ok ha hb h
  generalize (bothL max a b).1 = j at *
  have sa := right_srt ha; have sb := right_srt hb; have sc := right_srt hc
  rw [leqM_iff sa h3, leqM_iff sb h3, leqM_iff sa sc, leqM_iff sb sc, leqM_iff h3 sc]
  refine ⟨⟨by omega, fun k => by rw [h2]; omega⟩, ⟨by omega, fun k => by rw [h2]; omega⟩, fun g1 g2 => ⟨?_, fun k => ?_⟩⟩
  · have := g1.1; have := g2.1; omega
  · have := g1.2 k; have := g2.2 k; rw [h2]; omega
theorem meet_le {a b c : Lab} (ha : rightL a = true) (hb : rightL b = true) (hc : rightL c = true) (h : (bothL min a b).2 = 0) :
    leqM (bothL min a b).1 a = true ∧ leqM (bothL min a b).1 b = true ∧ (leqM c a = true → leqM c b = true → leqM c (bothL min a b).1 = true) := by
  obtain ⟨h1, h2, h3⟩ := both_ok ha hb h
  generalize (bothL min a b).1 = j at *
  have sa := right_srt ha; have sb := right_srt hb; have sc := right_srt hc
  rw [leqM_iff h3 sa, leqM_iff h3 sb, leqM_iff sc sa, leqM_iff sc sb, leqM_iff sc h3]
  refine ⟨⟨by omega, fun k => by rw [h2]; omega⟩, ⟨by omega, fun k => by rw [h2]; omega⟩, fun g1 g2 => ⟨?_, fun k => ?_⟩⟩
  · have := g1.1; have := g2.1; omega
  · have := g1.2 k; have := g2.2 k; rw [h2]; omega
theorem both_comm {f : Int → Int → Int} (hf : ∀ x y, f x y = f y x) {a b : Lab} (ha : rightL a = true) (hb : rightL b = true) : bothL f a b = bothL f b a := by
  have sa := right_srt ha; have sb := right_srt hb
  unfold bothL
  rw [hf a.1 b.1]
  congr 2
  refine ss_ext _ _ (both_ss (lev_sorted sa sb)) (both_ss (lev_sorted sb sa)) fun x => ?_
  rw [both_mem, both_mem]
  constructor
  · rintro ⟨y, hy, h1, h2, h3⟩
    obtain ⟨g1, g2, g3⟩ := (lev_mem sa sb y).1 hy
    exact ⟨(y.1, y.2.2, y.2.1), (lev_mem sb sa _).2 ⟨g1.symm, g3, g2⟩, h1, by rw [h2]; exact hf _ _, h3⟩
  · rintro ⟨y, hy, h1, h2, h3⟩
    obtain ⟨g1, g2, g3⟩ := (lev_mem sb sa y).1 hy
    exact ⟨(y.1, y.2.2, y.2.1), (lev_mem sa sb _).2 ⟨g1.symm, g3, g2⟩, h1, by rw [h2]; exact hf _ _, h3⟩
end Go.Proofs.Ytlnclaggmjhbfaa
