/-
  The plain words of the layer of terms: nodes, arenas as lists of nodes, which is the greater one, what may be made, what making gives. No Go, no memory.
-/
import Derived.KernelRfl
namespace Go.Proofs.Ythejfodjielahaa
set_option maxRecDepth 8000

/-- A node: its kind, its number, its parts. -/
structure Nd where
  k : Int
  n : Int
  a : Int
  b : Int
  c : Int
deriving DecidableEq

def Nd.z : Nd := ⟨0, 0, 0, 0, 0⟩

def has (L : List Nd) (x : Int) : Bool := decide (0 ≤ x) && decide (x < L.length)
def nd (L : List Nd) (x : Int) : Nd := L.getD x.toNat Nd.z
def sgn (x y : Int) : Int := if x < y then -1 else if y < x then 1 else 0
/-- The first one that is not 0. -/
def lx (a b : Int) : Int := if a ≠ 0 then a else b

def cmpF : Nat → List Nd → Int → Int → Int
  | 0, _, _, _ => 0
  | f + 1, L, x, y =>
    if x = y then 0
    else if has L x = true ∧ has L y = true then
      lx (sgn (nd L x).k (nd L y).k) (lx (sgn (nd L x).n (nd L y).n)
        (lx (cmpF f L (nd L x).a (nd L y).a) (lx (cmpF f L (nd L x).b (nd L y).b) (cmpF f L (nd L x).c (nd L y).c))))
    else if has L x = true then -1
    else if has L y = true then 1
    else sgn x y

def cmp (L : List Nd) (x y : Int) : Int := cmpF (L.length + 1) L x y

/-- Each term is made of terms ahead of it; the first one is Empty. -/
structure Wf (L : List Nd) : Prop where
  pos : 0 < L.length
  zero : nd L 0 = Nd.z
  pa : ∀ x : Int, 0 < x → x < L.length → 0 ≤ (nd L x).a ∧ (nd L x).a < x
  pb : ∀ x : Int, 0 < x → x < L.length → 0 ≤ (nd L x).b ∧ (nd L x).b < x
  pc : ∀ x : Int, 0 < x → x < L.length → 0 ≤ (nd L x).c ∧ (nd L x).c < x

theorem has_iff {L : List Nd} {x : Int} : has L x = true ↔ 0 ≤ x ∧ x < L.length := by simp [has]

theorem cmpF_same {L : List Nd} (hw : Wf L) : ∀ (f g : Nat) (x y : Int), 1 ≤ f → 1 ≤ g → (has L x = true → x < f ∧ x < g) → (has L y = true → y < f ∧ y < g) →
    cmpF f L x y = cmpF g L x y := by
  intro f
  induction f with
  | zero => intro g x y h; omega
  | succ f ih =>
    intro g x y _ hg hx hy
    obtain ⟨g, rfl⟩ : ∃ m, g = m + 1 := ⟨g - 1, by omega⟩
    simp only [cmpF]
    by_cases e : x = y
    · simp [e]
    rw [if_neg e, if_neg e]
    by_cases hh : has L x = true ∧ has L y = true
    · rw [if_pos hh, if_pos hh]
      obtain ⟨h1, h2⟩ := hh
      have bx := hx h1
      have by' := hy h2
      rw [has_iff] at h1 h2
      have hf : 1 ≤ f ∧ 1 ≤ g := by omega
      have parts : ∀ z : Int, 0 ≤ z → z < L.length → z < f + 1 → z < g + 1 →
          ((nd L z).a < f ∧ (nd L z).a < g) ∧ ((nd L z).b < f ∧ (nd L z).b < g) ∧ ((nd L z).c < f ∧ (nd L z).c < g) := by
        intro z z0 zl zf zg
        by_cases hz : z = 0
        · subst hz; rw [hw.zero]; simp [Nd.z]; omega
        · have := hw.pa z (by omega) zl
          have := hw.pb z (by omega) zl
          have := hw.pc z (by omega) zl
          omega
      have px := parts x h1.1 h1.2 (by omega) (by omega)
      have py := parts y h2.1 h2.2 (by omega) (by omega)
      rw [ih g _ _ hf.1 hf.2 (fun _ => px.1) (fun _ => py.1), ih g _ _ hf.1 hf.2 (fun _ => px.2.1) (fun _ => py.2.1), ih g _ _ hf.1 hf.2 (fun _ => px.2.2) (fun _ => py.2.2)]
    · rw [if_neg hh, if_neg hh]

theorem cmpF_eq {L : List Nd} (hw : Wf L) (f : Nat) (x y : Int) (hf : 1 ≤ f) (hx : has L x = true → x < f) (hy : has L y = true → y < f) : cmpF f L x y = cmp L x y := by
  refine cmpF_same hw f (L.length + 1) x y hf (by omega) (fun h => ⟨hx h, ?_⟩) (fun h => ⟨hy h, ?_⟩) <;> (rw [has_iff] at h; omega)

/-- What comparing is. -/
theorem cmp_eq {L : List Nd} (hw : Wf L) (x y : Int) : cmp L x y =
    if x = y then 0
    else if has L x = true ∧ has L y = true then
      lx (sgn (nd L x).k (nd L y).k) (lx (sgn (nd L x).n (nd L y).n)
        (lx (cmp L (nd L x).a (nd L y).a) (lx (cmp L (nd L x).b (nd L y).b) (cmp L (nd L x).c (nd L y).c))))
    else if has L x = true then -1
    else if has L y = true then 1
    else sgn x y := by
  have hp := hw.pos
  have parts : ∀ z : Int, has L z = true → (nd L z).a < L.length ∧ (nd L z).b < L.length ∧ (nd L z).c < L.length := by
    intro z hz
    rw [has_iff] at hz
    by_cases h0 : z = 0
    · subst h0; rw [hw.zero]; simp [Nd.z]; omega
    · have := hw.pa z (by omega) hz.2
      have := hw.pb z (by omega) hz.2
      have := hw.pc z (by omega) hz.2
      omega
  unfold cmp
  conv => lhs; unfold cmpF
  by_cases e : x = y
  · simp [e]
  rw [if_neg e, if_neg e]
  by_cases hh : has L x = true ∧ has L y = true
  · rw [if_pos hh, if_pos hh]
    have px := parts x hh.1
    have py := parts y hh.2
    rw [cmpF_same hw L.length (L.length + 1) _ _ (by omega) (by omega) (fun _ => ⟨px.1, by omega⟩) (fun _ => ⟨py.1, by omega⟩),
      cmpF_same hw L.length (L.length + 1) _ _ (by omega) (by omega) (fun _ => ⟨px.2.1, by omega⟩) (fun _ => ⟨py.2.1, by omega⟩),
      cmpF_same hw L.length (L.length + 1) _ _ (by omega) (by omega) (fun _ => ⟨px.2.2, by omega⟩) (fun _ => ⟨py.2.2, by omega⟩)]
  · rw [if_neg hh, if_neg hh]

/-! ### What may be made -/

def many (k : Int) : Int :=
  if k = 2 then 1 else if k = 7 then 3 else if k = 0 ∨ k = 1 ∨ k = 9 then 0 else 2

def partOk (L : List Nd) (m j p : Int) : Bool := if j < m then has L p else decide (p = 0)

def numbered (n : Nd) : Bool :=
  if n.k = 1 ∨ n.k = 7 ∨ n.k = 9 then true
  else if n.k = 6 then decide (1 ≤ n.n) && decide (n.n ≤ 4)
  else decide (n.n = 0)

def right (L : List Nd) (n : Nd) : Bool :=
  decide (0 ≤ n.k) && decide (n.k ≤ 9) && numbered n &&
  partOk L (many n.k) 0 n.a && partOk L (many n.k) 1 n.b && partOk L (many n.k) 2 n.c &&
  (if n.k = 3 then decide (cmp L n.a n.b ≤ 0) else if n.k = 4 then decide ((nd L n.b).k ≠ 2) else true)

def findAt : List Nd → Nd → Nat → Option Nat
  | [], _, _ => none
  | m :: L, n, i => if n = m then some i else findAt L n (i + 1)
def find (L : List Nd) (n : Nd) : Option Nat := findAt L n 0

/-- What making a node gives: the terms behind it, the ref, the error. -/
def mk (lim : Nat) (L : List Nd) (n : Nd) : List Nd × Int × Int :=
  if right L n = true then
    match find L n with
    | some i => (L, i, 0)
    | none => if lim ≤ L.length then (L, 0, 3) else (L ++ [n], L.length, 0)
  else (L, 0, 1)

def share (lim : Nat) (L : List Nd) (x y : Int) : List Nd × Int × Int :=
  if has L x = true ∧ has L y = true then
    if (nd L y).k ≠ 2 then mk lim L ⟨4, 0, x, y, 0⟩
    else if cmp L x (nd L y).a > 0 then mk lim L ⟨3, 0, (nd L y).a, x, 0⟩
    else mk lim L ⟨3, 0, x, (nd L y).a, 0⟩
  else (L, 0, 1)

/-- The room of an arena. -/
def room (limit : Int) : Nat := (min (max limit 1) 65536).toNat
end Go.Proofs.Ythejfodjielahaa
