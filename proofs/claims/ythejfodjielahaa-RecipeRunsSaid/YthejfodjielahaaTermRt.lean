/-
  What is in an arena may be made again. Plain.
-/
import Derived.Test.YthejfodjielahaaTermMk
namespace Go.Proofs.Ythejfodjielahaa
set_option maxRecDepth 8000
set_option linter.unusedSimpArgs false
set_option linter.unusedVariables false

/-- Each term of an arena may be. -/
def Rt (L : List Nd) : Prop := ∀ x, has L x = true → right L (nd L x) = true

theorem right_append {L M : List Nd} (hw : Wf L) (hw' : Wf (L ++ M)) {n : Nd} (h : right L n = true) : right (L ++ M) n = true := by
  have hp := right_parts hw.pos h
  unfold right at h ⊢
  simp only [Bool.and_eq_true, decide_eq_true_eq] at h ⊢
  obtain ⟨⟨⟨⟨⟨⟨h1, h2⟩, h3⟩, h4⟩, h5⟩, h6⟩, h7⟩ := h
  have part : ∀ {m j p : Int}, partOk L m j p = true → partOk (L ++ M) m j p = true := by
    intro m j p h
    unfold partOk at h ⊢
    split
    · rename_i hj; rw [if_pos hj] at h; exact has_append h
    · rename_i hj; rw [if_neg hj] at h; exact h
  refine ⟨⟨⟨⟨⟨⟨h1, h2⟩, h3⟩, part h4⟩, part h5⟩, part h6⟩, ?_⟩
  have hc : cmp (L ++ M) n.a n.b = cmp L n.a n.b := cmp_append hw hw' L.length _ _ hp.1 hp.2.1 (has_iff.1 hp.1).2 (has_iff.1 hp.2.1).2
  rw [hc, nd_append hp.2.1]
  exact h7

theorem rt_new : Rt [Nd.z] := by
  intro x h
  have : x = 0 := by rw [has_iff] at h; simp at h; omega
  subst this
  decide

theorem mk_rt {lim : Nat} {L : List Nd} (g : Good lim L) (h : Rt L) (n : Nd) : Rt (mk lim L n).1 := by
  have g' := mk_good g n
  rcases mk_cases lim L n with ⟨e, _⟩ | ⟨i, e, _⟩ | ⟨e, _⟩ | ⟨e, hr, hf, hl⟩ <;> rw [e] at g' ⊢
  · exact h
  · exact h
  · exact h
  · intro x hx
    rcases has_snoc.1 hx with h1 | h1
    · rw [nd_append h1]; exact right_append g.wf g'.wf (h x h1)
    · subst h1; rw [nd_snoc]; exact right_append g.wf g'.wf hr

theorem find_at {lim : Nat} {L : List Nd} (g : Good lim L) {x : Int} (hx : has L x = true) : find L (nd L x) = some x.toNat := find_of g.uniq hx

/-- What is there is made again as it was. -/
theorem mk_again {lim lim' : Nat} {L : List Nd} (g : Good lim L) (h : Rt L) {x : Int} (hx : has L x = true) : mk lim' L (nd L x) = (L, x, 0) := by
  unfold mk
  rw [if_pos (h x hx), find_at g hx]
  have := has_iff.1 hx
  simp; omega

theorem mk_there {lim lim' : Nat} {L : List Nd} (g : Good lim L) (h : Rt L) {n : Nd} {i : Nat} (hf : find L n = some i) : mk lim' L n = (L, (i : Int), 0) := by
  obtain ⟨h1, rfl⟩ := find_some hf
  exact mk_again g h (has_of h1)

theorem find_append {L M : List Nd} {n : Nd} : ∀ {i : Nat} (k : Nat), findAt L n k = some i → findAt (L ++ M) n k = some i := by
  induction L with
  | nil => intro i k h; simp [findAt] at h
  | cons m L ih =>
    intro i k h
    simp only [List.cons_append, findAt] at h ⊢
    split
    · rename_i e; rw [if_pos e] at h; exact h
    · rename_i e; rw [if_neg e] at h; exact ih _ h

/-- What is found behind a making. -/
theorem mk_found {lim : Nat} {L : List Nd} (g : Good lim L) (h : Rt L) (n : Nd) :
    (find (mk lim L n).1 n).isSome = decide ((mk lim L n).2.2 = 0) ∧ ((mk lim L n).2.2 = 0 → (((find (mk lim L n).1 n).getD 0 : Nat) : Int) = (mk lim L n).2.1) := by
  have g' := mk_good g n
  rcases mk_cases lim L n with ⟨e, hr⟩ | ⟨i, e, hr, hf⟩ | ⟨e, hr, hf, _⟩ | ⟨e, hr, hf, hl⟩ <;> rw [e] at g' ⊢
  · have : find L n = none := by
      cases hf : find L n with
      | none => rfl
      | some i =>
        obtain ⟨h1, h2⟩ := find_some hf
        have := h i (has_of h1)
        rw [h2, hr] at this
        cases this
    simp [this]
  · simp [hf]
  · simp [hf]
  · have hx : has (L ++ [n]) L.length = true := has_snoc.2 (.inr rfl)
    have := find_at g' hx
    rw [nd_snoc] at this
    simp [this]

theorem cmp_range (L : List Nd) : ∀ (f : Nat) (x y : Int), -1 ≤ cmpF f L x y ∧ cmpF f L x y ≤ 1 := by
  have hs : ∀ a b : Int, -1 ≤ sgn a b ∧ sgn a b ≤ 1 := fun a b => by unfold sgn; repeat' split <;> omega
  have hl : ∀ a b : Int, (-1 ≤ a ∧ a ≤ 1) → (-1 ≤ b ∧ b ≤ 1) → (-1 ≤ lx a b ∧ lx a b ≤ 1) := fun a b h1 h2 => by unfold lx; split <;> omega
  intro f
  induction f with
  | zero => intro x y; simp [cmpF]
  | succ f ih =>
    intro x y
    simp only [cmpF]
    split
    · omega
    · split
      · exact hl _ _ (hs _ _) (hl _ _ (hs _ _) (hl _ _ (ih _ _) (hl _ _ (ih _ _) (ih _ _))))
      · split
        · omega
        · split
          · omega
          · exact hs _ _
theorem cmp_in (L : List Nd) (x y : Int) : -1 ≤ cmp L x y ∧ cmp L x y ≤ 1 := cmp_range L _ x y

/-- A secret, and another one's public key: shared both ways. -/
theorem share_back {lim : Nat} {L : List Nd} (g : Good lim L) (hr : Rt L) {x y : Int} (h1 : (share lim L x y).2.2 = 0) (h2 : (nd (share lim L x y).1 y).k = 2) (h3 : (mk lim (share lim L x y).1 ⟨2, 0, x, 0, 0⟩).2.2 = 0) :
    (share lim (mk lim (share lim L x y).1 ⟨2, 0, x, 0, 0⟩).1 (nd (share lim L x y).1 y).a (mk lim (share lim L x y).1 ⟨2, 0, x, 0, 0⟩).2.1).2 = ((share lim L x y).2.1, 0) := by
  by_cases hh : has L x = true ∧ has L y = true
  rotate_left
  · unfold share at h1; rw [if_neg hh] at h1; cases h1
  obtain ⟨hx, hy⟩ := hh
  -- the arena behind the first sharing is a greater one
  have ext : ∃ M n, share lim L x y = mk lim L n ∧ (mk lim L n).1 = L ++ M := by
    unfold share
    rw [if_pos ⟨hx, hy⟩]
    split
    · obtain ⟨M, h⟩ := mk_prefix lim L ⟨4, 0, x, y, 0⟩; exact ⟨M, _, rfl, h⟩
    · split
      · obtain ⟨M, h⟩ := mk_prefix lim L ⟨3, 0, (nd L y).a, x, 0⟩; exact ⟨M, _, rfl, h⟩
      · obtain ⟨M, h⟩ := mk_prefix lim L ⟨3, 0, x, (nd L y).a, 0⟩; exact ⟨M, _, rfl, h⟩
  obtain ⟨M, n, hsn, hM⟩ := ext
  have hk : (nd L y).k = 2 := by rw [hsn, hM, nd_append hy] at h2; exact h2
  have hz : (nd (share lim L x y).1 y).a = (nd L y).a := by rw [hsn, hM, nd_append hy]
  have hzp := parts_lt g.wf (m := L.length) hy (has_iff.1 hy).2
  rw [hz]
  generalize hzz : (nd L y).a = z at *
  -- which node it is
  have hn : share lim L x y = mk lim L (if cmp L x z > 0 then ⟨3, 0, z, x, 0⟩ else ⟨3, 0, x, z, 0⟩) := by
    unfold share
    rw [if_pos ⟨hx, hy⟩, if_neg (by omega), hzz]
    split <;> rfl
  generalize hnd : (if cmp L x z > 0 then (⟨3, 0, z, x, 0⟩ : Nd) else ⟨3, 0, x, z, 0⟩) = n3 at *
  rw [hn] at h1 h3 ⊢
  have m1 := mk_made h1
  have g1 := mk_good g n3
  have r1 := mk_rt g hr n3
  obtain ⟨M1, hM1⟩ := mk_prefix lim L n3
  generalize hL1 : (mk lim L n3).1 = L1 at *
  generalize hs : (mk lim L n3).2.1 = s at *
  have m2 := mk_made h3
  have g2 := mk_good g1 ⟨2, 0, x, 0, 0⟩
  have r2 := mk_rt g1 r1 ⟨2, 0, x, 0, 0⟩
  obtain ⟨M2, hM2⟩ := mk_prefix lim L1 ⟨2, 0, x, 0, 0⟩
  generalize hL2 : (mk lim L1 ⟨2, 0, x, 0, 0⟩).1 = L2 at *
  generalize hpp : (mk lim L1 ⟨2, 0, x, 0, 0⟩).2.1 = p at *
  have hx2 : has L2 x = true := by rw [hM2, hM1]; exact has_append (has_append hx)
  have hz2 : has L2 z = true := by rw [hM2, hM1]; exact has_append (has_append hzp.1)
  have hcmp : cmp L2 x z = cmp L x z := by
    have e : L2 = L ++ (M1 ++ M2) := by rw [hM2, hM1, List.append_assoc]
    have w2 := g2.wf
    rw [e] at w2 ⊢
    exact cmp_append g.wf w2 L.length _ _ hx hzp.1 (has_iff.1 hx).2 (has_iff.1 hzp.1).2
  have hanti := cmp_anti g2.wf g2.uniq z x
  have hzero := cmp_zero g2.wf g2.uniq (x := x) (y := z)
  have hback : share lim L2 z p = mk lim L2 n3 := by
    unfold share
    rw [if_pos ⟨hz2, m2.1⟩, if_neg (by rw [m2.2]; simp), m2.2]
    simp only
    by_cases hc : cmp L x z > 0
    · rw [if_pos hc] at hnd
      rw [if_neg (by omega), hnd]
    · rw [if_neg hc] at hnd
      by_cases hc0 : cmp L x z = 0
      · have hxz : x = z := hzero.1 (by omega)
        rw [if_neg (by omega), ← hnd, hxz]
      · rw [if_pos (by omega), ← hnd]
  have hs2 : has L2 s = true := by rw [hM2]; exact has_append m1.1
  have hn2 : nd L2 s = n3 := by rw [hM2, nd_append m1.1]; exact m1.2
  rw [hback, ← hn2, mk_again g2 r2 hs2]
end Go.Proofs.Ythejfodjielahaa
