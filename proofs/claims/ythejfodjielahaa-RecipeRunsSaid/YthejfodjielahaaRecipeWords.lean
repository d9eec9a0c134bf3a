/-
  The plain words of the layer of recipes: a step, what it makes; a recipe. No program.
-/
import Derived.Test.YthejfodjielahaaMem
import Derived.Test.YthejfodjielahaaKnowPure
namespace Go.Proofs.Ythejfodjielahaa
set_option maxRecDepth 8000
set_option linter.unusedSimpArgs false
set_option linter.unusedVariables false
open Go Go.RowKit

structure Stp where
  op : Int
  n : Int
  a : Int
  b : Int
  c : Int
def stpL (s : Stp) : List Value := [.int .i64 s.op, .int .u64 s.n, .int .i64 s.a, .int .i64 s.b, .int .i64 s.c]

/-- How many steps an op uses. -/
def uses (op : Int) : Nat := if op = 2 ∨ op = 10 ∨ op = 11 then 1 else if op = 3 ∨ op = 5 ∨ op = 6 ∨ op = 8 ∨ op = 12 then 2 else if op = 7 then 3 else 0
/-- Is there such a step? -/
def ahd (made : List Int) (x : Int) : Bool := decide (0 ≤ x ∧ x < made.length)
def mde (made : List Int) (x : Int) : Int := made.getD x.toNat 0
/-- Do steps use what is ahead of them alone, so many? -/
def aheadS (s : Stp) (u : Nat) (made : List Int) : Bool :=
  (if u = 0 then decide (s.a = 0) else ahd made s.a) && (if u ≤ 1 then decide (s.b = 0) else ahd made s.b) && (if u ≤ 2 then decide (s.c = 0) else ahd made s.c)

def takenOf (L : List Nd) (made : List Int) (s : Stp) : Int × Int :=
  if s.op = 12 then (if (nd L (mde made s.a)).k = 7 ∧ (nd L (mde made s.a)).a = mde made s.b then ((nd L (mde made s.a)).c, 0) else (0, 12))
  else if (nd L (mde made s.a)).k = 8 then (if s.op = 10 then (nd L (mde made s.a)).a else (nd L (mde made s.a)).b, 0) else (0, 12)

/-- What a step makes: the document's words. -/
def oneS (lim : Nat) (L : List Nd) (heard made : List Int) (s : Stp) : List Nd × Int × Int :=
  if s.op = 0 then (if s.n = 0 ∧ s.b = 0 ∧ s.c = 0 ∧ 0 ≤ s.a ∧ s.a < heard.length then (L, mde heard s.a, 0) else (L, 0, 12))
  else if s.op = 1 then (if s.n < 1048576 ∧ aheadS s 0 made = true then mk lim L ⟨1, 4294967296 + s.n, 0, 0, 0⟩ else (L, 0, 12))
  else if s.op = 2 then (if s.n = 0 ∧ aheadS s 1 made = true then mk lim L ⟨2, 0, mde made s.a, 0, 0⟩ else (L, 0, 12))
  else if s.op = 3 then (if s.n = 0 ∧ aheadS s 2 made = true then share lim L (mde made s.a) (mde made s.b) else (L, 0, 12))
  else if s.op = 5 ∨ s.op = 8 then (if s.n = 0 ∧ aheadS s 2 made = true then mk lim L ⟨s.op, 0, mde made s.a, mde made s.b, 0⟩ else (L, 0, 12))
  else if s.op = 6 then (if 1 ≤ s.n ∧ s.n ≤ 4 ∧ aheadS s 2 made = true then mk lim L ⟨6, s.n, mde made s.a, mde made s.b, 0⟩ else (L, 0, 12))
  else if s.op = 7 then (if aheadS s 3 made = true then mk lim L ⟨7, s.n, mde made s.a, mde made s.b, mde made s.c⟩ else (L, 0, 12))
  else if s.op = 9 then (if aheadS s 0 made = true then mk lim L ⟨9, s.n, 0, 0, 0⟩ else (L, 0, 12))
  else if s.op = 10 ∨ s.op = 11 then (if s.n = 0 ∧ aheadS s 1 made = true then (L, takenOf L made s) else (L, 0, 12))
  else if s.op = 12 then (if s.n = 0 ∧ aheadS s 2 made = true then (L, takenOf L made s) else (L, 0, 12))
  else if s.op = 13 then (if s.n = 0 ∧ aheadS s 0 made = true then (L, 0, 0) else (L, 0, 12))
  else (L, 0, 12)

/-- What steps make: the arena behind it, what was made, where it stopped, why. -/
def runS (lim : Nat) (heard : List Int) : List Stp → List Nd → List Int → Nat → List Nd × List Int × Nat × Int
  | [], L, made, _ => (L, made, 0, 0)
  | s :: l, L, made, at_ => if (oneS lim L heard made s).2.2 ≠ 0 then (L, [], at_, (oneS lim L heard made s).2.2) else runS lim heard l (oneS lim L heard made s).1 (made ++ [(oneS lim L heard made s).2.1]) (at_ + 1)

theorem ahd_iff {made : List Int} {x : Int} : ahd made x = true ↔ 0 ≤ x ∧ x < made.length := by simp [ahd]
theorem mde_get {made : List Int} {x : Int} (h : ahd made x = true) : ∃ h2 : x.toNat < made.length, mde made x = made[x.toNat] := by
  rw [ahd_iff] at h
  have h2 : x.toNat < made.length := by omega
  exact ⟨h2, by simp [mde, List.getD, List.getElem?_eq_getElem h2]⟩
/-- All of a list are terms. -/
def AllHas (L : List Nd) (l : List Int) : Prop := ∀ x ∈ l, has L x = true
theorem allHas_mde {L : List Nd} {made : List Int} (h : AllHas L made) {x : Int} (hx : ahd made x = true) : has L (mde made x) = true := by
  obtain ⟨h2, e⟩ := mde_get hx
  rw [e]; exact h _ (List.getElem_mem h2)
theorem allHas_ext {L M : List Nd} {l : List Int} (h : AllHas L l) : AllHas (L ++ M) l := fun x hx => has_append (h x hx)

theorem has0 {lim : Nat} {L : List Nd} (g : Good lim L) : has L 0 = true := by rw [has_iff]; have := g.wf.pos; omega

theorem mk_ok_has {lim : Nat} {L : List Nd} {n : Nd} (h : (mk lim L n).2.2 = 0) : has (mk lim L n).1 (mk lim L n).2.1 = true := (mk_made h).1
theorem share_good {lim : Nat} {L : List Nd} (g : Good lim L) (x y : Int) : Good lim (share lim L x y).1 := by
  unfold share
  split
  · split
    · exact mk_good g _
    · split
      · exact mk_good g _
      · exact mk_good g _
  · exact g
theorem share_prefix (lim : Nat) (L : List Nd) (x y : Int) : ∃ M, (share lim L x y).1 = L ++ M := by
  unfold share
  split
  · split
    · exact mk_prefix _ _ _
    · split
      · exact mk_prefix _ _ _
      · exact mk_prefix _ _ _
  · exact ⟨[], by simp⟩
theorem share_ok_has {lim : Nat} {L : List Nd} {x y : Int} (h : (share lim L x y).2.2 = 0) : has (share lim L x y).1 (share lim L x y).2.1 = true := by
  unfold share at h ⊢
  split at h
  · rename_i hh
    rw [if_pos hh]
    split at h
    · rename_i h1; rw [if_pos h1]; exact mk_ok_has h
    · rename_i h1
      rw [if_neg h1]
      split at h
      · rename_i h2; rw [if_pos h2]; exact mk_ok_has h
      · rename_i h2; rw [if_neg h2]; exact mk_ok_has h
  · cases h

/-- What a step leaves: an arena that goes on; its own term, if it went well. -/
structure OneOk (lim : Nat) (L : List Nd) (q : List Nd × Int × Int) : Prop where
  good : Good lim q.1
  ext : ∃ M, q.1 = L ++ M
  made : q.2.2 = 0 → has q.1 q.2.1 = true
theorem oneok_mk {lim : Nat} {L : List Nd} (g : Good lim L) (n : Nd) : OneOk lim L (mk lim L n) := ⟨mk_good g n, mk_prefix _ _ _, mk_ok_has⟩
theorem oneok_no {lim : Nat} {L : List Nd} (g : Good lim L) {e : Int} (he : e ≠ 0) : OneOk lim L (L, 0, e) := ⟨g, ⟨[], by simp⟩, fun h => absurd h he⟩
theorem oneok_at {lim : Nat} {L : List Nd} (g : Good lim L) {x e : Int} (hx : e = 0 → has L x = true) : OneOk lim L (L, x, e) := ⟨g, ⟨[], by simp⟩, hx⟩
theorem taken_has {lim : Nat} {L : List Nd} (g : Good lim L) {made : List Int} (h : AllHas L made) {s : Stp} (ha : ahd made s.a = true) (he : (takenOf L made s).2 = 0) : has L (takenOf L made s).1 = true := by
  have hx := allHas_mde h ha
  have hp : ∀ k, 0 < k → (nd L (mde made s.a)).k = k → has L (nd L (mde made s.a)).a = true ∧ has L (nd L (mde made s.a)).b = true ∧ has L (nd L (mde made s.a)).c = true := fun k h0 hk => by
    rcases nd_parts g hx with q | ⟨p1, p2, p3, _⟩
    · omega
    · exact ⟨p1, p2, p3⟩
  unfold takenOf at he ⊢
  split
  · rename_i h12
    rw [if_pos h12] at he
    split
    · rename_i h7; exact (hp 7 (by omega) h7.1).2.2
    · rename_i h7; rw [if_neg h7] at he; cases he
  · rename_i h12
    rw [if_neg h12] at he
    split
    · rename_i h8
      have := hp 8 (by omega) h8
      simp only
      split
      · exact this.1
      · exact this.2.1
    · rename_i h8; rw [if_neg h8] at he; cases he
theorem ahead_a {s : Stp} {u : Nat} {made : List Int} (h : aheadS s u made = true) (hu : 0 < u) : ahd made s.a = true := by
  unfold aheadS at h
  simp only [Bool.and_eq_true] at h
  rw [if_neg (by omega)] at h
  exact h.1.1
theorem ahead_b {s : Stp} {u : Nat} {made : List Int} (h : aheadS s u made = true) (hu : 1 < u) : ahd made s.b = true := by
  unfold aheadS at h
  simp only [Bool.and_eq_true] at h
  rw [if_neg (by omega : ¬ u ≤ 1)] at h
  exact h.1.2
theorem ahead_c {s : Stp} {u : Nat} {made : List Int} (h : aheadS s u made = true) (hu : 2 < u) : ahd made s.c = true := by
  unfold aheadS at h
  simp only [Bool.and_eq_true] at h
  rw [if_neg (by omega : ¬ u ≤ 2)] at h
  exact h.2

theorem one_ok {lim : Nat} {L : List Nd} (g : Good lim L) {heard made : List Int} (h1 : AllHas L heard) (h2 : AllHas L made) (s : Stp) : OneOk lim L (oneS lim L heard made s) := by
  unfold oneS
  have hno : OneOk lim L (L, 0, (12 : Int)) := oneok_no g (by omega)
  by_cases c0 : s.op = 0
  · rw [if_pos c0]
    split
    · rename_i hc
      exact oneok_at g (fun _ => allHas_mde h1 (ahd_iff.2 ⟨hc.2.2.2.1, hc.2.2.2.2⟩))
    · exact hno
  rw [if_neg c0]
  by_cases c1 : s.op = 1
  · rw [if_pos c1]
    split
    · exact oneok_mk g _
    · exact hno
  rw [if_neg c1]
  by_cases c2 : s.op = 2
  · rw [if_pos c2]
    split
    · exact oneok_mk g _
    · exact hno
  rw [if_neg c2]
  by_cases c3 : s.op = 3
  · rw [if_pos c3]
    split
    · exact ⟨share_good g _ _, share_prefix _ _ _ _, share_ok_has⟩
    · exact hno
  rw [if_neg c3]
  by_cases c5 : s.op = 5 ∨ s.op = 8
  · rw [if_pos c5]
    split
    · exact oneok_mk g _
    · exact hno
  rw [if_neg c5]
  by_cases c6 : s.op = 6
  · rw [if_pos c6]
    split
    · exact oneok_mk g _
    · exact hno
  rw [if_neg c6]
  by_cases c7 : s.op = 7
  · rw [if_pos c7]
    split
    · exact oneok_mk g _
    · exact hno
  rw [if_neg c7]
  by_cases c9 : s.op = 9
  · rw [if_pos c9]
    split
    · exact oneok_mk g _
    · exact hno
  rw [if_neg c9]
  by_cases c10 : s.op = 10 ∨ s.op = 11
  · rw [if_pos c10]
    split
    · rename_i hc
      exact oneok_at g (fun he => taken_has g h2 (ahead_a hc.2 (by omega)) he)
    · exact hno
  rw [if_neg c10]
  by_cases c12 : s.op = 12
  · rw [if_pos c12]
    split
    · rename_i hc
      exact oneok_at g (fun he => taken_has g h2 (ahead_a hc.2 (by omega)) he)
    · exact hno
  rw [if_neg c12]
  by_cases c13 : s.op = 13
  · rw [if_pos c13]
    split
    · exact oneok_at g (fun _ => has0 g)
    · exact hno
  rw [if_neg c13]
  exact hno

/-- What went wrong leaves the arena as it was. -/
theorem mk_stays {lim : Nat} {L : List Nd} {n : Nd} (h : (mk lim L n).2.2 ≠ 0) : (mk lim L n).1 = L := by
  rcases mk_err lim L n with q | ⟨_, q, _⟩
  · exact absurd q h
  · exact q
theorem share_stays {lim : Nat} {L : List Nd} {x y : Int} (h : (share lim L x y).2.2 ≠ 0) : (share lim L x y).1 = L := by
  unfold share at h ⊢
  by_cases h1 : has L x = true ∧ has L y = true
  · rw [if_pos h1] at h ⊢
    by_cases h2 : (nd L y).k ≠ 2
    · rw [if_pos h2] at h ⊢; exact mk_stays h
    · rw [if_neg h2] at h ⊢
      by_cases h3 : cmp L x (nd L y).a > 0
      · rw [if_pos h3] at h ⊢; exact mk_stays h
      · rw [if_neg h3] at h ⊢; exact mk_stays h
  · rw [if_neg h1]
theorem one_same {lim : Nat} {L : List Nd} {heard made : List Int} {s : Stp} (h : (oneS lim L heard made s).2.2 ≠ 0) : (oneS lim L heard made s).1 = L := by
  unfold oneS at h ⊢
  by_cases c0 : s.op = 0
  · rw [if_pos c0] at h ⊢
    split <;> rfl
  rw [if_neg c0] at h ⊢
  by_cases c1 : s.op = 1
  · rw [if_pos c1] at h ⊢
    by_cases hc : s.n < 1048576 ∧ aheadS s 0 made = true
    · rw [if_pos hc] at h ⊢; exact mk_stays h
    · rw [if_neg hc]
  rw [if_neg c1] at h ⊢
  by_cases c2 : s.op = 2
  · rw [if_pos c2] at h ⊢
    by_cases hc : s.n = 0 ∧ aheadS s 1 made = true
    · rw [if_pos hc] at h ⊢; exact mk_stays h
    · rw [if_neg hc]
  rw [if_neg c2] at h ⊢
  by_cases c3 : s.op = 3
  · rw [if_pos c3] at h ⊢
    by_cases hc : s.n = 0 ∧ aheadS s 2 made = true
    · rw [if_pos hc] at h ⊢; exact share_stays h
    · rw [if_neg hc]
  rw [if_neg c3] at h ⊢
  by_cases c5 : s.op = 5 ∨ s.op = 8
  · rw [if_pos c5] at h ⊢
    by_cases hc : s.n = 0 ∧ aheadS s 2 made = true
    · rw [if_pos hc] at h ⊢; exact mk_stays h
    · rw [if_neg hc]
  rw [if_neg c5] at h ⊢
  by_cases c6 : s.op = 6
  · rw [if_pos c6] at h ⊢
    by_cases hc : 1 ≤ s.n ∧ s.n ≤ 4 ∧ aheadS s 2 made = true
    · rw [if_pos hc] at h ⊢; exact mk_stays h
    · rw [if_neg hc]
  rw [if_neg c6] at h ⊢
  by_cases c7 : s.op = 7
  · rw [if_pos c7] at h ⊢
    by_cases hc : aheadS s 3 made = true
    · rw [if_pos hc] at h ⊢; exact mk_stays h
    · rw [if_neg hc]
  rw [if_neg c7] at h ⊢
  by_cases c9 : s.op = 9
  · rw [if_pos c9] at h ⊢
    by_cases hc : aheadS s 0 made = true
    · rw [if_pos hc] at h ⊢; exact mk_stays h
    · rw [if_neg hc]
  rw [if_neg c9] at h ⊢
  by_cases c10 : s.op = 10 ∨ s.op = 11
  · rw [if_pos c10]; split <;> rfl
  rw [if_neg c10]
  by_cases c12 : s.op = 12
  · rw [if_pos c12]; split <;> rfl
  rw [if_neg c12]
  by_cases c13 : s.op = 13
  · rw [if_pos c13]; split <;> rfl
  rw [if_neg c13]
end Go.Proofs.Ythejfodjielahaa
