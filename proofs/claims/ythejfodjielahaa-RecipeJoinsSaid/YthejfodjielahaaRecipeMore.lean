/-
  A recipe once more in what it left makes the same; a recipe in two parts. Plain.
-/
import Derived.Test.YthejfodjielahaaRecipeCan
import Derived.Test.YthejfodjielahaaRecipe5
namespace Go.Proofs.Ythejfodjielahaa
set_option maxRecDepth 8000
set_option linter.unusedSimpArgs false
set_option linter.unusedVariables false
open Go Go.RowKit

theorem mk_more {lim : Nat} {L M : List Nd} (g : Good lim L) {n : Nd} (he : (mk lim L n).2.2 = 0) (g2 : Good lim ((mk lim L n).1 ++ M)) :
    mk lim ((mk lim L n).1 ++ M) n = ((mk lim L n).1 ++ M, (mk lim L n).2.1, 0) := by
  obtain ⟨h1, h2⟩ := mk_made he
  have hr : right L n = true := by
    rcases mk_cases lim L n with ⟨e, _⟩ | ⟨i, e, hr, hf⟩ | ⟨e, hr, _⟩ | ⟨e, hr, hf, hl⟩
    · rw [e] at he; simp at he
    · exact hr
    · exact hr
    · exact hr
  obtain ⟨M1, hM1⟩ := mk_prefix lim L n
  have hr2 : right ((mk lim L n).1 ++ M) n = true := by
    rw [hM1, List.append_assoc] at g2 ⊢
    exact right_append g.wf g2.wf hr
  have hx : has ((mk lim L n).1 ++ M) (mk lim L n).2.1 = true := has_append h1
  have hn : nd ((mk lim L n).1 ++ M) (mk lim L n).2.1 = n := by rw [nd_append h1, h2]
  have hf := find_of g2.uniq hx
  rw [hn] at hf
  generalize (mk lim L n).1 ++ M = L' at hx hf hr2 ⊢
  generalize (mk lim L n).2.1 = x at hx hf ⊢
  obtain ⟨i, rfl, hi⟩ := has_nat hx
  rw [Int.toNat_natCast] at hf
  simp [mk, hr2, hf]

set_option maxHeartbeats 1000000 in
theorem share_again {lim : Nat} {L M : List Nd} (g : Good lim L) {x y : Int} (he : (share lim L x y).2.2 = 0) (g2 : Good lim ((share lim L x y).1 ++ M)) :
    share lim ((share lim L x y).1 ++ M) x y = ((share lim L x y).1 ++ M, (share lim L x y).2.1, 0) := by
  have hh : has L x = true ∧ has L y = true := by
    by_cases h : has L x = true ∧ has L y = true
    · exact h
    · unfold share at he; rw [if_neg h] at he; simp at he
  obtain ⟨M1, hM1⟩ := share_prefix lim L x y
  have g3 := g2
  rw [hM1, List.append_assoc] at g3
  have hh2 : has (L ++ (M1 ++ M)) x = true ∧ has (L ++ (M1 ++ M)) y = true := ⟨has_append hh.1, has_append hh.2⟩
  have hny : nd (L ++ (M1 ++ M)) y = nd L y := nd_append hh.2
  have hL2 : (share lim L x y).1 ++ M = L ++ (M1 ++ M) := by rw [hM1, List.append_assoc]
  have key : ∀ n : Nd, share lim L x y = mk lim L n → mk lim ((share lim L x y).1 ++ M) n = ((share lim L x y).1 ++ M, (share lim L x y).2.1, 0) := fun n e => by
    rw [e] at he g2 ⊢
    exact mk_more g he g2
  by_cases h2 : (nd L y).k ≠ 2
  · have e : share lim L x y = mk lim L ⟨4, 0, x, y, 0⟩ := by unfold share; rw [if_pos hh, if_pos h2]
    have := key _ e
    rw [hL2] at this ⊢
    rw [← this]
    conv => lhs; unfold share
    rw [if_pos hh2, hny, if_pos h2]
  · have hk : (nd L y).k = 2 := by omega
    have hpa : has L (nd L y).a = true := by
      rcases nd_parts g hh.2 with q | ⟨p1, _⟩
      · omega
      · exact p1
    have hcmp : cmp (L ++ (M1 ++ M)) x (nd L y).a = cmp L x (nd L y).a :=
      cmp_append g.wf g3.wf L.length x (nd L y).a hh.1 hpa (has_iff.1 hh.1).2 (has_iff.1 hpa).2
    by_cases h3 : cmp L x (nd L y).a > 0
    · have e : share lim L x y = mk lim L ⟨3, 0, (nd L y).a, x, 0⟩ := by unfold share; rw [if_pos hh, if_neg h2, if_pos h3]
      have := key _ e
      rw [hL2] at this ⊢
      rw [← this]
      conv => lhs; unfold share
      rw [if_pos hh2, hny, if_neg h2, hcmp, if_pos h3]
    · have e : share lim L x y = mk lim L ⟨3, 0, x, (nd L y).a, 0⟩ := by unfold share; rw [if_pos hh, if_neg h2, if_neg h3]
      have := key _ e
      rw [hL2] at this ⊢
      rw [← this]
      conv => lhs; unfold share
      rw [if_pos hh2, hny, if_neg h2, hcmp, if_neg h3]

theorem taken_again {L M : List Nd} {made : List Int} {s : Stp} (h : AllHas L made) (ha : ahd made s.a = true) : takenOf (L ++ M) made s = takenOf L made s := by
  have := nd_append (M := M) (allHas_mde h ha)
  unfold takenOf
  rw [this]

section
variable {lim : Nat} {L M : List Nd} {heard made : List Int}

theorem one_again (g : Good lim L) (h1 : AllHas L heard) (h2 : AllHas L made) {s : Stp} (he : (oneS lim L heard made s).2.2 = 0) (g2 : Good lim ((oneS lim L heard made s).1 ++ M)) :
    oneS lim ((oneS lim L heard made s).1 ++ M) heard made s = ((oneS lim L heard made s).1 ++ M, (oneS lim L heard made s).2.1, 0) := by
  unfold oneS at he g2 ⊢
  by_cases c0 : s.op = 0
  · simp only [if_pos c0] at he g2 ⊢
    split at he
    · rename_i hc; simp only [if_pos hc] at g2 ⊢
    · simp at he
  simp only [if_neg c0] at he g2 ⊢
  by_cases c1 : s.op = 1
  · simp only [if_pos c1] at he g2 ⊢
    split at he
    · rename_i hc; simp only [if_pos hc] at g2 ⊢; exact mk_more g he g2
    · simp at he
  simp only [if_neg c1] at he g2 ⊢
  by_cases c2 : s.op = 2
  · simp only [if_pos c2] at he g2 ⊢
    split at he
    · rename_i hc; simp only [if_pos hc] at g2 ⊢; exact mk_more g he g2
    · simp at he
  simp only [if_neg c2] at he g2 ⊢
  by_cases c3 : s.op = 3
  · simp only [if_pos c3] at he g2 ⊢
    split at he
    · rename_i hc; simp only [if_pos hc] at g2 ⊢; exact share_again g he g2
    · simp at he
  simp only [if_neg c3] at he g2 ⊢
  by_cases c5 : s.op = 5 ∨ s.op = 8
  · simp only [if_pos c5] at he g2 ⊢
    split at he
    · rename_i hc; simp only [if_pos hc] at g2 ⊢; exact mk_more g he g2
    · simp at he
  simp only [if_neg c5] at he g2 ⊢
  by_cases c6 : s.op = 6
  · simp only [if_pos c6] at he g2 ⊢
    split at he
    · rename_i hc; simp only [if_pos hc] at g2 ⊢; exact mk_more g he g2
    · simp at he
  simp only [if_neg c6] at he g2 ⊢
  by_cases c7 : s.op = 7
  · simp only [if_pos c7] at he g2 ⊢
    split at he
    · rename_i hc; simp only [if_pos hc] at g2 ⊢; exact mk_more g he g2
    · simp at he
  simp only [if_neg c7] at he g2 ⊢
  by_cases c9 : s.op = 9
  · simp only [if_pos c9] at he g2 ⊢
    split at he
    · rename_i hc; simp only [if_pos hc] at g2 ⊢; exact mk_more g he g2
    · simp at he
  simp only [if_neg c9] at he g2 ⊢
  by_cases c10 : s.op = 10 ∨ s.op = 11
  · simp only [if_pos c10] at he g2 ⊢
    split at he
    · rename_i hc; simp only [if_pos hc] at g2 ⊢
      rw [taken_again h2 (ahead_a hc.2 (by omega))]
      exact Prod.ext rfl (Prod.ext rfl he)
    · simp at he
  simp only [if_neg c10] at he g2 ⊢
  by_cases c12 : s.op = 12
  · simp only [if_pos c12] at he g2 ⊢
    split at he
    · rename_i hc; simp only [if_pos hc] at g2 ⊢
      rw [taken_again h2 (ahead_a hc.2 (by omega))]
      exact Prod.ext rfl (Prod.ext rfl he)
    · simp at he
  simp only [if_neg c12] at he g2 ⊢
  by_cases c13 : s.op = 13
  · simp only [if_pos c13] at he g2 ⊢
    split at he
    · rename_i hc; simp only [if_pos hc] at g2 ⊢
    · simp at he
  simp only [if_neg c13] at he
  simp at he

theorem runS_ext : ∀ (l : List Stp) (L : List Nd) (made : List Int) (i : Nat), Good lim L → AllHas L heard → AllHas L made → Good lim (runS lim heard l L made i).1 ∧ ∃ M, (runS lim heard l L made i).1 = L ++ M := by
  intro l
  induction l with
  | nil => intro L made i g _ _; exact ⟨g, [], by simp [runS]⟩
  | cons s l ih =>
    intro L made i g h1 h2
    by_cases he : (oneS lim L heard made s).2.2 = 0
    · rw [runS_yes he]
      have o := one_ok g h1 h2 s
      obtain ⟨M, hM⟩ := o.ext
      obtain ⟨q1, q2, q3, q4⟩ := allHas_one g h1 h2 (s := s)
      obtain ⟨r1, M2, r2⟩ := ih _ _ (i + 1) q1 q2 (q4 he)
      exact ⟨r1, M ++ M2, by rw [r2, hM, List.append_assoc]⟩
    · unfold runS
      rw [if_pos he]
      exact ⟨g, [], by simp⟩

theorem runS_again : ∀ (l : List Stp) (L : List Nd) (made : List Int) (i : Nat), Good lim L → AllHas L heard → AllHas L made →
    runS lim heard l (runS lim heard l L made i).1 made i = runS lim heard l L made i := by
  intro l
  induction l with
  | nil => intro L made i g _ _; rfl
  | cons s l ih =>
    intro L made i g h1 h2
    by_cases he : (oneS lim L heard made s).2.2 = 0
    · rw [runS_yes he]
      obtain ⟨q1, q2, q3, q4⟩ := allHas_one g h1 h2 (s := s)
      obtain ⟨r1, M, r2⟩ := runS_ext l _ _ (i + 1) q1 q2 (q4 he)
      have e2 := ih _ _ (i + 1) q1 q2 (q4 he)
      rw [r2] at r1
      have e3 := one_again g h1 h2 he r1
      rw [← r2] at e3
      rw [runS_yes (by rw [e3]), e3]
      exact e2
    · have e : runS lim heard (s :: l) L made i = (L, [], i, (oneS lim L heard made s).2.2) := by
        conv => lhs; unfold runS
        rw [if_pos he]
      rw [e]
      exact e

theorem runS_append : ∀ (l1 l2 : List Stp) (L : List Nd) (made : List Int) (i : Nat), runS lim heard (l1 ++ l2) L made i =
    if (runS lim heard l1 L made i).2.2.2 = 0 then runS lim heard l2 (runS lim heard l1 L made i).1 (runS lim heard l1 L made i).2.1 (i + l1.length) else runS lim heard l1 L made i := by
  intro l1
  induction l1 with
  | nil => intro l2 L made i; simp [runS]
  | cons s l ih =>
    intro l2 L made i
    rw [List.cons_append]
    by_cases he : (oneS lim L heard made s).2.2 = 0
    · rw [runS_yes he, runS_yes he, ih, List.length_cons, show i + 1 + l.length = i + (l.length + 1) by omega]
    · unfold runS
      rw [if_pos he, if_pos he]
      simp only
      rw [if_neg he]

theorem runS_made : ∀ (l : List Stp) (L : List Nd) (made : List Int) (i : Nat), ((runS lim heard l L made i).2.2.2 = 0 → ∃ M, (runS lim heard l L made i).2.1 = made ++ M ∧ M.length = l.length) ∧
    ((runS lim heard l L made i).2.2.2 ≠ 0 → (runS lim heard l L made i).2.1 = [] ∧ i ≤ (runS lim heard l L made i).2.2.1) := by
  intro l
  induction l with
  | nil => intro L made i; exact ⟨fun _ => ⟨[], by simp [runS]⟩, fun h => absurd rfl h⟩
  | cons s l ih =>
    intro L made i
    by_cases he : (oneS lim L heard made s).2.2 = 0
    · rw [runS_yes he]
      obtain ⟨h1, h2⟩ := ih (oneS lim L heard made s).1 (made ++ [(oneS lim L heard made s).2.1]) (i + 1)
      refine ⟨fun h => ?_, fun h => ?_⟩
      · obtain ⟨M, e, e2⟩ := h1 h
        exact ⟨_ :: M, by rw [e, List.append_assoc]; rfl, by simp [e2]⟩
      · obtain ⟨a, b⟩ := h2 h
        exact ⟨a, by omega⟩
    · unfold runS
      rw [if_pos he]
      exact ⟨fun h => absurd h he, fun _ => ⟨rfl, Nat.le_refl _⟩⟩
end
end Go.Proofs.Ythejfodjielahaa
