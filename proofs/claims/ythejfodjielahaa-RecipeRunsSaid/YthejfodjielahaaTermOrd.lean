/-
  Comparing is an order; making keeps an arena good. Plain.
-/
import Derived.Test.YthejfodjielahaaTerm
namespace Go.Proofs.Ythejfodjielahaa
set_option maxRecDepth 8000
set_option linter.unusedSimpArgs false
set_option linter.unusedVariables false

theorem sgn_self (x : Int) : sgn x x = 0 := by unfold sgn; split <;> (try split) <;> omega
theorem sgn_zero {x y : Int} : sgn x y = 0 ↔ x = y := by unfold sgn; split <;> (try split) <;> omega
theorem sgn_anti (x y : Int) : sgn x y = - sgn y x := by unfold sgn; repeat' split <;> omega
theorem lx_zero {a b : Int} : lx a b = 0 ↔ a = 0 ∧ b = 0 := by unfold lx; split <;> omega
theorem lx_anti (a b : Int) : lx (-a) (-b) = - lx a b := by unfold lx; repeat' split <;> omega

/-- Three comparisons that go together. -/
def Tri (a b c : Int) : Prop := a ≤ 0 → b ≤ 0 → c ≤ 0 ∧ (c = 0 → a = 0 ∧ b = 0)
theorem lx_of {a b : Int} (h : a ≠ 0) : lx a b = a := by unfold lx; rw [if_pos h]
theorem lx_zero_left (b : Int) : lx 0 b = b := by simp [lx]
theorem lx_assoc (a b c : Int) : lx (lx a b) c = lx a (lx b c) := by
  by_cases h : a = 0
  · subst h; simp only [lx_zero_left]
  · rw [lx_of h, lx_of h, lx_of h]
theorem lx_le {a b : Int} (h : lx a b ≤ 0) : a ≤ 0 := by
  by_cases h0 : a = 0
  · omega
  · rw [lx_of h0] at h; exact h
theorem lx_tri {a b c a' b' c' : Int} (h : Tri a b c) (h' : Tri a' b' c') : Tri (lx a a') (lx b b') (lx c c') := by
  intro h1 h2
  obtain ⟨hc, hz⟩ := h (lx_le h1) (lx_le h2)
  by_cases h0 : c = 0
  · obtain ⟨rfl, rfl⟩ := hz h0
    subst h0
    simp only [lx_zero_left] at *
    exact h' h1 h2
  · rw [lx_of h0]
    exact ⟨hc, fun h => absurd h h0⟩
theorem sgn_tri (x y z : Int) : Tri (sgn x y) (sgn y z) (sgn x z) := by
  unfold Tri sgn
  intro h1 h2
  repeat' split at * <;> omega

/-- No two terms of an arena are the same. -/
def Uniq (L : List Nd) : Prop := ∀ x y, has L x = true → has L y = true → nd L x = nd L y → x = y

section
variable {L : List Nd} (hw : Wf L) (hu : Uniq L)
include hw

theorem parts_lt {m : Nat} {x : Int} (hx : has L x = true) (hm : x < m) : has L (nd L x).a = true ∧ has L (nd L x).b = true ∧ has L (nd L x).c = true ∧
    (0 < x → (nd L x).a < x ∧ (nd L x).b < x ∧ (nd L x).c < x) := by
  rw [has_iff] at hx
  by_cases h0 : x = 0
  · subst h0
    have hp := hw.pos
    rw [hw.zero]
    refine ⟨?_, ?_, ?_, by omega⟩ <;> (rw [has_iff]; simp [Nd.z]; omega)
  · have h1 := hw.pa x (by omega) hx.2
    have h2 := hw.pb x (by omega) hx.2
    have h3 := hw.pc x (by omega) hx.2
    refine ⟨?_, ?_, ?_, fun _ => ⟨h1.2, h2.2, h3.2⟩⟩ <;> (rw [has_iff]; omega)

include hu
theorem cmp_order : ∀ (m : Nat), (∀ x y : Int, (has L x = true → x < m) → (has L y = true → y < m) → cmp L x y = - cmp L y x) ∧
    (∀ x y : Int, (has L x = true → x < m) → (has L y = true → y < m) → cmp L x y = 0 → x = y) ∧
    (∀ x y z : Int, (has L x = true → x < m) → (has L y = true → y < m) → (has L z = true → z < m) → Tri (cmp L x y) (cmp L y z) (cmp L x z)) := by
  intro m
  induction m with
  | zero =>
    have none : ∀ x : Int, (has L x = true → x < (0 : Nat)) → ¬ has L x = true := fun x h hx => by
      have := h hx; rw [has_iff] at hx; omega
    refine ⟨fun x y hx hy => ?_, fun x y hx hy h => ?_, fun x y z hx hy hz => ?_⟩
    · have h1 := none x hx; have h2 := none y hy
      rw [cmp_eq hw x y, cmp_eq hw y x]
      by_cases e : x = y
      · simp [e]
      · have e' : ¬ y = x := fun h => e h.symm
        simp [e, e', h1, h2]; exact sgn_anti x y
    · have h1 := none x hx; have h2 := none y hy
      rw [cmp_eq hw x y] at h
      by_cases e : x = y
      · exact e
      · simp [e, h1, h2] at h; exact sgn_zero.1 h
    · have h1 := none x hx; have h2 := none y hy; have h3 := none z hz
      have key : ∀ a b : Int, ¬ has L a = true → ¬ has L b = true → cmp L a b = sgn a b := fun a b ha hb => by
        rw [cmp_eq hw a b]
        by_cases e : a = b
        · simp [e, sgn_self]
        · simp [e, ha, hb]
      rw [key x y h1 h2, key y z h2 h3, key x z h1 h3]
      exact sgn_tri x y z
  | succ m ih =>
    obtain ⟨ih1, ih2, ih3⟩ := ih
    -- what comparing is, of terms that are there, or not
    have body : ∀ a b : Int, has L a = true → has L b = true → cmp L a b = lx (sgn (nd L a).k (nd L b).k) (lx (sgn (nd L a).n (nd L b).n)
        (lx (cmp L (nd L a).a (nd L b).a) (lx (cmp L (nd L a).b (nd L b).b) (cmp L (nd L a).c (nd L b).c)))) := fun a b ha hb => by
      rw [cmp_eq hw a b]
      by_cases e : a = b
      · subst e
        have z : ∀ c : Int, cmp L c c = 0 := fun c => by rw [cmp_eq hw c c]; simp
        simp [z, sgn_self, lx]
      · rw [if_neg e, if_pos ⟨ha, hb⟩]
    have low : ∀ a b : Int, has L a = true → ¬ has L b = true → cmp L a b = -1 := fun a b ha hb => by
      rw [cmp_eq hw a b, if_neg (fun e => by rw [e] at ha; exact hb ha), if_neg (fun h => hb h.2), if_pos ha]
    have high : ∀ a b : Int, ¬ has L a = true → has L b = true → cmp L a b = 1 := fun a b ha hb => by
      rw [cmp_eq hw a b, if_neg (fun e => by rw [e] at ha; exact ha hb), if_neg (fun h => ha h.1), if_neg ha, if_pos hb]
    have out : ∀ a b : Int, ¬ has L a = true → ¬ has L b = true → cmp L a b = sgn a b := fun a b ha hb => by
      rw [cmp_eq hw a b]
      by_cases e : a = b
      · simp [e, sgn_self]
      · simp [e, ha, hb]
    -- the parts are smaller
    have small : ∀ a : Int, has L a = true → a < ((m + 1 : Nat) : Int) → (has L (nd L a).a = true → (nd L a).a < m ∨ m = 0) ∧ (has L (nd L a).b = true → (nd L a).b < m ∨ m = 0) ∧ (has L (nd L a).c = true → (nd L a).c < m ∨ m = 0) := fun a ha hm => by
      have h0 := has_iff.1 ha
      by_cases z : a = 0
      · subst z; rw [hw.zero]; simp [Nd.z]; omega
      · have h1 := hw.pa a (by omega) h0.2; have h2 := hw.pb a (by omega) h0.2; have h3 := hw.pc a (by omega) h0.2
        refine ⟨fun _ => ?_, fun _ => ?_, fun _ => ?_⟩ <;> omega
    by_cases hm0 : m = 0
    · subst hm0
      -- only term 0 is below 1
      have only : ∀ a : Int, (has L a = true → a < ((0 + 1 : Nat) : Int)) → has L a = true → a = 0 := fun a h ha => by
        have := h ha; have := has_iff.1 ha; omega
      have self : ∀ a : Int, cmp L a a = 0 := fun a => by rw [cmp_eq hw a a]; simp
      refine ⟨fun x y hx hy => ?_, fun x y hx hy h => ?_, fun x y z hx hy hz => ?_⟩
      · by_cases h1 : has L x = true <;> by_cases h2 : has L y = true
        · rw [only x hx h1, only y hy h2, self]; rfl
        · rw [low x y h1 h2, high y x h2 h1]
        · rw [high x y h1 h2, low y x h2 h1]; rfl
        · rw [out x y h1 h2, out y x h2 h1]; exact sgn_anti x y
      · by_cases h1 : has L x = true <;> by_cases h2 : has L y = true
        · rw [only x hx h1, only y hy h2]
        · rw [low x y h1 h2] at h; omega
        · rw [high x y h1 h2] at h; omega
        · rw [out x y h1 h2] at h; exact sgn_zero.1 h
      · by_cases h1 : has L x = true <;> by_cases h2 : has L y = true <;> by_cases h3 : has L z = true
        · rw [only x hx h1, only y hy h2, only z hz h3, self]; unfold Tri; omega
        · rw [low y z h2 h3, low x z h1 h3, only x hx h1, only y hy h2, self]; unfold Tri; omega
        · rw [low x y h1 h2, high y z h2 h3]; unfold Tri; omega
        · rw [low x y h1 h2, low x z h1 h3]; unfold Tri; omega
        · rw [high x y h1 h2]; unfold Tri; omega
        · rw [high x y h1 h2]; unfold Tri; omega
        · rw [high y z h2 h3]; unfold Tri; omega
        · rw [out x y h1 h2, out y z h2 h3, out x z h1 h3]; exact sgn_tri x y z
    · have small' : ∀ a : Int, has L a = true → a < ((m + 1 : Nat) : Int) → (has L (nd L a).a = true → (nd L a).a < m) ∧ (has L (nd L a).b = true → (nd L a).b < m) ∧ (has L (nd L a).c = true → (nd L a).c < m) := fun a ha hm => by
        have := small a ha hm
        exact ⟨fun h => (this.1 h).resolve_right hm0, fun h => (this.2.1 h).resolve_right hm0, fun h => (this.2.2 h).resolve_right hm0⟩
      refine ⟨fun x y hx hy => ?_, fun x y hx hy h => ?_, fun x y z hx hy hz => ?_⟩
      · by_cases h1 : has L x = true <;> by_cases h2 : has L y = true
        · have sx := small' x h1 (hx h1); have sy := small' y h2 (hy h2)
          rw [body x y h1 h2, body y x h2 h1, sgn_anti (nd L x).k, sgn_anti (nd L x).n, ih1 _ _ sx.1 sy.1, ih1 _ _ sx.2.1 sy.2.1, ih1 _ _ sx.2.2 sy.2.2]
          simp only [lx_anti]
        · rw [low x y h1 h2, high y x h2 h1]
        · rw [high x y h1 h2, low y x h2 h1]; rfl
        · rw [out x y h1 h2, out y x h2 h1]; exact sgn_anti x y
      · by_cases h1 : has L x = true <;> by_cases h2 : has L y = true
        · have sx := small' x h1 (hx h1); have sy := small' y h2 (hy h2)
          rw [body x y h1 h2] at h
          simp only [lx_zero, sgn_zero] at h
          obtain ⟨e1, e2, e3, e4, e5⟩ := h
          have e3 := ih2 _ _ sx.1 sy.1 e3
          have e4 := ih2 _ _ sx.2.1 sy.2.1 e4
          have e5 := ih2 _ _ sx.2.2 sy.2.2 e5
          apply hu x y h1 h2
          have ext : ∀ a b : Nd, a.k = b.k → a.n = b.n → a.a = b.a → a.b = b.b → a.c = b.c → a = b := by
            rintro ⟨⟩ ⟨⟩ h1 h2 h3 h4 h5
            simp only at h1 h2 h3 h4 h5
            rw [h1, h2, h3, h4, h5]
          exact ext _ _ e1 e2 e3 e4 e5
        · rw [low x y h1 h2] at h; omega
        · rw [high x y h1 h2] at h; omega
        · rw [out x y h1 h2] at h; exact sgn_zero.1 h
      · by_cases h1 : has L x = true <;> by_cases h2 : has L y = true <;> by_cases h3 : has L z = true
        · have sx := small' x h1 (hx h1); have sy := small' y h2 (hy h2); have sz := small' z h3 (hz h3)
          rw [body x y h1 h2, body y z h2 h3, body x z h1 h3]
          exact lx_tri (sgn_tri _ _ _) (lx_tri (sgn_tri _ _ _) (lx_tri (ih3 _ _ _ sx.1 sy.1 sz.1) (lx_tri (ih3 _ _ _ sx.2.1 sy.2.1 sz.2.1) (ih3 _ _ _ sx.2.2 sy.2.2 sz.2.2))))
        · rw [low y z h2 h3, low x z h1 h3]; unfold Tri; omega
        · rw [low x y h1 h2, high y z h2 h3]; unfold Tri; omega
        · rw [low x y h1 h2, low x z h1 h3]; unfold Tri; omega
        · rw [high x y h1 h2]; unfold Tri; omega
        · rw [high x y h1 h2]; unfold Tri; omega
        · rw [high y z h2 h3]; unfold Tri; omega
        · rw [out x y h1 h2, out y z h2 h3, out x z h1 h3]; exact sgn_tri x y z

theorem cmp_anti (x y : Int) : cmp L x y = - cmp L y x := (cmp_order hw hu L.length).1 x y (fun h => (has_iff.1 h).2) (fun h => (has_iff.1 h).2)
theorem cmp_zero {x y : Int} : cmp L x y = 0 ↔ x = y :=
  ⟨(cmp_order hw hu L.length).2.1 x y (fun h => (has_iff.1 h).2) (fun h => (has_iff.1 h).2), fun e => by subst e; rw [cmp_eq hw]; simp⟩
theorem cmp_trans {x y z : Int} (h1 : cmp L x y ≤ 0) (h2 : cmp L y z ≤ 0) : cmp L x z ≤ 0 :=
  ((cmp_order hw hu L.length).2.2 x y z (fun h => (has_iff.1 h).2) (fun h => (has_iff.1 h).2) (fun h => (has_iff.1 h).2) h1 h2).1
end
end Go.Proofs.Ythejfodjielahaa
