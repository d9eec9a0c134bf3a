/-
  What comes of what is known, in plain words: what more gives, and why learning ends. No program.
-/
import Derived.Test.YthejfodjielahaaKnow1
namespace Go.Proofs.Ythejfodjielahaa
set_option maxRecDepth 8000
set_option linter.unusedSimpArgs false
set_option linter.unusedVariables false
open Go Go.RowKit

/-- What comes of one known term. -/
def comesOf (L : List Nd) (K : Int → Bool) (z : Int) : List Int :=
  if (nd L z).k = 8 then [(nd L z).a, (nd L z).b] else if (nd L z).k = 7 ∧ can L K (nd L z).a = true then [(nd L z).c] else []
theorem comesOf_len (L : List Nd) (K : Int → Bool) (z : Int) : (comesOf L K z).length ≤ 2 := by
  unfold comesOf; split
  · simp
  · split <;> simp
theorem closed_of {L : List Nd} {K : Int → Bool} (h : ∀ z, K z = true → ∀ x ∈ comesOf L K z, K x = true) : Closed L K := by
  refine ⟨fun z hz hk => ?_, fun z hz hk hc => ?_⟩
  · have := h z hz
    unfold comesOf at this
    rw [if_pos hk] at this
    exact ⟨this _ (by simp), this _ (by simp)⟩
  · have := h z hz
    unfold comesOf at this
    rw [if_neg (by omega), if_pos ⟨hk, hc⟩] at this
    exact this _ (by simp)
theorem comes_has {lim : Nat} {L : List Nd} (g : Good lim L) {K : Int → Bool} {z x : Int} (hz : has L z = true) (h : x ∈ comesOf L K z) : has L x = true := by
  unfold comesOf at h
  rcases nd_parts g hz with h0 | ⟨h1, h2, h3, _⟩
  · rw [if_neg (by omega), if_neg (by omega)] at h; cases h
  · split at h
    · simp only [List.mem_cons, List.not_mem_nil, or_false] at h
      rcases h with rfl | rfl
      · exact h1
      · exact h2
    · split at h
      · simp only [List.mem_cons, List.not_mem_nil, or_false] at h
        subst h; exact h3
      · cases h
/-- What comes is in all that is closed over it. -/
theorem comes_cl {L : List Nd} {K C : Int → Bool} (hC : Closed L C) (hs : ∀ y, K y = true → C y = true) {z x : Int} (hz : K z = true) (h : x ∈ comesOf L K z) : C x = true := by
  unfold comesOf at h
  split at h
  · rename_i hk
    simp only [List.mem_cons, List.not_mem_nil, or_false] at h
    have := hC.pair z (hs z hz) hk
    rcases h with rfl | rfl
    · exact this.1
    · exact this.2
  · split at h
    · rename_i hk
      simp only [List.mem_cons, List.not_mem_nil, or_false] at h
      subst h
      exact hC.opn z (hs z hz) hk.1 (can_mono hs hk.2)
    · cases h
/-- All of a list are known, too. -/
def insAll (K : Int → Bool) (l : List Int) : Int → Bool := l.foldl ins K
theorem insAll_iff : ∀ {l : List Int} {K : Int → Bool} {y : Int}, insAll K l y = true ↔ K y = true ∨ y ∈ l
  | [], K, y => by simp [insAll]
  | x :: l, K, y => by
    have := insAll_iff (l := l) (K := ins K x) (y := y)
    unfold insAll at this ⊢
    rw [List.foldl_cons, this, ins_iff, List.mem_cons]
    constructor
    · rintro ((h | h) | h)
      · exact .inl h
      · exact .inr (.inl h)
      · exact .inr (.inr h)
    · rintro (h | h | h)
      · exact .inl (.inl h)
      · exact .inl (.inr h)
      · exact .inr h
/-- How many are not known. -/
def rest (L : List Nd) (K : Int → Bool) : Nat := (List.range L.length).countP fun i => !K (i : Nat)
theorem rest_lt {L : List Nd} {K K' : Int → Bool} (h : ∀ y, K y = true → K' y = true) {x : Int} (hx : has L x = true) (h1 : K x = false) (h2 : K' x = true) : rest L K' < rest L K := by
  obtain ⟨i, rfl, hi⟩ := has_nat hx
  unfold rest
  have key : ∀ (l : List Nat), (l.countP fun j => !K' (j : Nat)) ≤ (l.countP fun j => !K (j : Nat)) ∧ (i ∈ l → (l.countP fun j => !K' (j : Nat)) < (l.countP fun j => !K (j : Nat))) := by
    intro l
    induction l with
    | nil => exact ⟨by simp, by simp⟩
    | cons j l ih =>
      simp only [List.countP_cons]
      have hj : K' (j : Int) = false → K (j : Int) = false := fun q => by
        cases hk : K (j : Int) with
        | false => rfl
        | true => rw [h _ hk] at q; cases q
      cases e1 : K (j : Int) <;> cases e2 : K' (j : Int)
      · refine ⟨by simp [ih.1], fun hm => ?_⟩
        rcases List.mem_cons.1 hm with rfl | hm
        · rw [h2] at e2; cases e2
        · have := ih.2 hm; simp; omega
      · refine ⟨by simp; have := ih.1; omega, fun hm => ?_⟩
        simp; have := ih.1; omega
      · rw [hj e2] at e1; cases e1
      · refine ⟨by simp [ih.1], fun hm => ?_⟩
        rcases List.mem_cons.1 hm with rfl | hm
        · rw [h1] at e1; cases e1
        · have := ih.2 hm; simp; omega
  exact (key _).2 (List.mem_range.2 hi)
end Go.Proofs.Ythejfodjielahaa
