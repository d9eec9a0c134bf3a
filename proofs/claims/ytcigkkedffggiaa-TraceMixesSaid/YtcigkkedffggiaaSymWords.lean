/-
  The plain words of the layer of handshakes' states: what is mixed, where all goes well; and what follows. No program.
-/
import Derived.Test.YtcigkkedffggiaaCipherWords
namespace Go.Proofs.Ytcigkkedffggiaa
set_option maxRecDepth 8000
set_option linter.unusedSimpArgs false
set_option linter.unusedVariables false
open Go Go.RowKit

structure Sy where
  ck : Int
  h : Int
  c : Cph
deriving DecidableEq
def Sy.z : Sy := ⟨0, 0, .z⟩
def syL (s : Sy) : List Value := [.int .i64 s.ck, .int .i64 s.h, .int .i64 s.c.key, .bool s.c.has, .int .u64 s.c.n]
def syV (s : Sy) : Value := .agg (syL s).toArray
structure YOp where
  k : Int
  x : Int
def yopL (o : YOp) : List Value := [.int .i64 o.k, .int .i64 o.x]

/-- A node that may be is made, while there is room. -/
theorem mk_room {lim : Nat} {L : List Nd} {n : Nd} (hr : right L n = true) (hl : L.length < lim) : (mk lim L n).2.2 = 0 := by
  rcases mk_cases lim L n with ⟨e, h⟩ | ⟨i, e, _⟩ | ⟨e, _, _, h⟩ | ⟨e, _⟩
  · rw [hr] at h; cases h
  · rw [e]
  · omega
  · rw [e]

/-- An arena behind one more making. -/
abbrev mkL (lim : Nat) (L : List Nd) (n : Nd) : List Nd := (mk lim L n).1
abbrev mkR (lim : Nat) (L : List Nd) (n : Nd) : Int := (mk lim L n).2.1

/-- The nodes of a state. -/
def hashN (h x : Int) : Nd := ⟨5, 0, h, x, 0⟩
def keyN (n ck x : Int) : Nd := ⟨6, n, ck, x, 0⟩
theorem hash_right {L : List Nd} {h x : Int} (h1 : has L h = true) (h2 : has L x = true) : right L (hashN h x) = true := by simp [right, hashN, numbered, many, partOk, h1, h2]
theorem key_right {L : List Nd} {n ck x : Int} (hn : 1 ≤ n ∧ n ≤ 4) (h1 : has L ck = true) (h2 : has L x = true) : right L (keyN n ck x) = true := by simp [right, keyN, numbered, many, partOk, h1, h2, hn]

/-- A making that went well, told whole. -/
structure Made (lim : Nat) (L : List Nd) (n : Nd) (L' : List Nd) (x : Int) : Prop where
  eq : mk lim L n = (L', x, 0)
  good : Good lim L'
  rt : Rt L'
  is : has L' x = true
  node : nd L' x = n
  len : L'.length ≤ L.length + 1
  ext : ∃ M, L' = L ++ M
theorem made {lim : Nat} {L : List Nd} {n : Nd} (g : Good lim L) (hr : Rt L) (h1 : right L n = true) (hl : L.length < lim) : ∃ L' x, Made lim L n L' x := by
  have h0 := mk_room h1 hl
  have hm := mk_made h0
  refine ⟨(mk lim L n).1, (mk lim L n).2.1, ?_, mk_good g n, mk_rt g hr n, hm.1, hm.2, mk_len lim L n, mk_prefix lim L n⟩
  rw [← h0]
section
variable {lim : Nat} {L L' : List Nd} {n : Nd} {x y : Int}
theorem Made.has (m : Made lim L n L' x) (h : has L y = true) : Proofs.Ytcigkkedffggiaa.has L' y = true := by obtain ⟨M, e⟩ := m.ext; rw [e]; exact has_append h
theorem Made.nd (m : Made lim L n L' x) (h : Proofs.Ytcigkkedffggiaa.has L y = true) : Proofs.Ytcigkkedffggiaa.nd L' y = Proofs.Ytcigkkedffggiaa.nd L y := by obtain ⟨M, e⟩ := m.ext; rw [e]; exact nd_append h
end
/-- Two refs of other nodes are others. -/
theorem ref_ne {L : List Nd} {x y : Int} (h : nd L x ≠ nd L y) : x ≠ y := fun e => h (by rw [e])

/-! ### Texts as terms -/
/-- A term that is a text, byte by byte. -/
inductive Den (L : List Nd) : Int → List Int → Prop
  | nil : Den L 0 []
  | snoc {t t' w b : Int} {l : List Int} : Den L t l → has L t' = true → has L w = true → nd L t' = ⟨8, 0, t, w, 0⟩ → nd L w = ⟨9, b, 0, 0, 0⟩ → Den L t' (l ++ [b])
theorem Den.append {L M : List Nd} {t : Int} {l : List Int} (h : Den L t l) : Den (L ++ M) t l := by
  induction h with
  | nil => exact .nil
  | snoc _ h1 h2 h3 h4 ih => exact .snoc ih (has_append h1) (has_append h2) (by rw [nd_append h1]; exact h3) (by rw [nd_append h2]; exact h4)
theorem Den.made {lim : Nat} {L L' : List Nd} {n : Nd} {x : Int} (m : Made lim L n L' x) {t : Int} {l : List Int} (h : Den L t l) : Den L' t l := by
  obtain ⟨M, e⟩ := m.ext; rw [e]; exact h.append
theorem Den.list {lim : Nat} {L : List Nd} (g : Good lim L) {t : Int} {l : List Int} (h : Den L t l) : ∀ {l' : List Int}, Den L t l' → l = l' := by
  induction h with
  | nil =>
    intro l' h'
    generalize ht : (0 : Int) = t0 at h'
    cases h' with
    | nil => rfl
    | snoc _ _ _ h3 _ => rw [← ht, g.wf.zero] at h3; simp [Nd.z] at h3
  | snoc hd h1 h2 h3 h4 ih =>
    intro l' h'
    cases h' with
    | nil => rw [g.wf.zero] at h3; simp [Nd.z] at h3
    | snoc hd' h1' h2' h3' h4' =>
      rw [h3] at h3'
      simp only [Nd.mk.injEq, true_and, and_true] at h3'
      obtain ⟨rfl, rfl⟩ := h3'
      rw [h4] at h4'
      simp only [Nd.mk.injEq, true_and, and_true] at h4'
      rw [ih hd', h4']
theorem Den.term {lim : Nat} {L : List Nd} (g : Good lim L) {t : Int} {l : List Int} (h : Den L t l) : ∀ {t' : Int}, Den L t' l → t = t' := by
  induction h with
  | nil =>
    intro t' h'
    generalize hl : ([] : List Int) = l0 at h'
    cases h' with
    | nil => rfl
    | snoc _ _ _ _ _ => simp at hl
  | @snoc t0 t1 w b l0 hd h1 h2 h3 h4 ih =>
    intro t' h'
    generalize hl : l0 ++ [b] = l1 at h'
    cases h' with
    | nil => simp at hl
    | @snoc t0' _ w' b' l0' hd' h1' h2' h3' h4' =>
      have hl' := List.append_inj' hl (by simp)
      obtain ⟨rfl, hb⟩ := hl'
      simp only [List.cons.injEq, and_true] at hb
      subst hb
      have e1 := ih hd'
      have e2 := g.uniq w w' h2 h2' (by rw [h4, h4'])
      exact g.uniq _ _ h1 h1' (by rw [h3, h3', e1, e2])
end Go.Proofs.Ytcigkkedffggiaa
