/-
  Making keeps an arena good. Plain.
-/
import Derived.Test.YthejfodjielahaaTermOrd
namespace Go.Proofs.Ythejfodjielahaa
set_option maxRecDepth 8000
set_option linter.unusedSimpArgs false
set_option linter.unusedVariables false

/-- What the table says of a node by itself. -/
def shape (n : Nd) : Prop :=
  0 ≤ n.k ∧ n.k ≤ 9 ∧ numbered n = true ∧ (many n.k ≤ 0 → n.a = 0) ∧ (many n.k ≤ 1 → n.b = 0) ∧ (many n.k ≤ 2 → n.c = 0)

structure Good (lim : Nat) (L : List Nd) : Prop where
  wf : Wf L
  uniq : Uniq L
  shape : ∀ x, has L x = true → shape (nd L x)
  len : L.length ≤ lim
  lim : lim ≤ 65536

theorem has_nat {L : List Nd} {x : Int} (h : has L x = true) : ∃ i : Nat, x = i ∧ i < L.length := by
  rw [has_iff] at h
  exact ⟨x.toNat, by omega, by omega⟩
theorem has_of {L : List Nd} {i : Nat} (h : i < L.length) : has L i = true := by rw [has_iff]; omega
theorem nd_nat {L : List Nd} {i : Nat} (h : i < L.length) : nd L i = L[i] := by
  simp [nd, List.getD, List.getElem?_eq_getElem h]
theorem nd_out {L : List Nd} {x : Int} (h : L.length ≤ x) : nd L x = Nd.z := by
  have : L.length ≤ x.toNat := by omega
  simp [nd, List.getD, List.getElem?_eq_none this]
theorem nd_append {L M : List Nd} {x : Int} (h : has L x = true) : nd (L ++ M) x = nd L x := by
  obtain ⟨i, rfl, hi⟩ := has_nat h
  rw [nd_nat hi, nd_nat (by simp; omega)]
  simp [List.getElem_append_left hi]
theorem nd_snoc {L : List Nd} {n : Nd} : nd (L ++ [n]) L.length = n := by
  rw [nd_nat (by simp)]
  simp
theorem has_append {L M : List Nd} {x : Int} (h : has L x = true) : has (L ++ M) x = true := by
  rw [has_iff] at *; simp; omega
theorem has_snoc {L : List Nd} {n : Nd} {x : Int} : has (L ++ [n]) x = true ↔ has L x = true ∨ x = L.length := by
  rw [has_iff, has_iff]; simp; omega

theorem findAt_some {n : Nd} : ∀ {L : List Nd} {i j : Nat}, findAt L n i = some j → i ≤ j ∧ L[j - i]? = some n
  | [], _, _, h => by simp [findAt] at h
  | m :: L, i, j, h => by
    simp only [findAt] at h
    split at h
    · simp at h; subst h; rename_i e; simp [e]
    · have := findAt_some h
      refine ⟨by omega, ?_⟩
      rw [show j - i = (j - (i + 1)) + 1 by omega, List.getElem?_cons_succ]
      exact this.2
theorem findAt_none {n : Nd} : ∀ {L : List Nd} {i : Nat}, findAt L n i = none → n ∉ L
  | [], _, _ => by simp
  | m :: L, i, h => by
    simp only [findAt] at h
    split at h
    · cases h
    · rename_i e
      have := findAt_none h
      simp [e, this]
theorem find_some {L : List Nd} {n : Nd} {i : Nat} (h : find L n = some i) : i < L.length ∧ nd L i = n := by
  have := (findAt_some h).2
  simp only [Nat.sub_zero] at this
  have hi : i < L.length := (List.getElem?_eq_some_iff.1 this).1
  refine ⟨hi, ?_⟩
  rw [nd_nat hi]
  exact (List.getElem?_eq_some_iff.1 this).2
theorem find_none {L : List Nd} {n : Nd} (h : find L n = none) : ∀ x, has L x = true → nd L x ≠ n := by
  intro x hx e
  obtain ⟨i, rfl, hi⟩ := has_nat hx
  rw [nd_nat hi] at e
  exact findAt_none h (e ▸ List.getElem_mem hi)
theorem find_of {L : List Nd} (hu : Uniq L) {x : Int} (hx : has L x = true) : find L (nd L x) = some x.toNat := by
  cases h : find L (nd L x) with
  | none => exact absurd rfl (find_none h x hx)
  | some i =>
    obtain ⟨h1, h2⟩ := find_some h
    have := hu i x (has_of h1) hx h2
    congr 1
    omega

theorem right_spec {L : List Nd} {n : Nd} (h : right L n = true) : shape n ∧ (0 < many n.k → has L n.a = true) ∧ (1 < many n.k → has L n.b = true) ∧ (2 < many n.k → has L n.c = true) ∧
    (n.k = 3 → cmp L n.a n.b ≤ 0) ∧ (n.k = 4 → (nd L n.b).k ≠ 2) := by
  unfold right partOk at h
  simp only [Bool.and_eq_true, decide_eq_true_eq] at h
  obtain ⟨⟨⟨⟨⟨⟨h1, h2⟩, h3⟩, h4⟩, h5⟩, h6⟩, h7⟩ := h
  refine ⟨⟨h1, h2, h3, fun hm => ?_, fun hm => ?_, fun hm => ?_⟩, fun hm => ?_, fun hm => ?_, fun hm => ?_, fun hk => ?_, fun hk => ?_⟩
  · rw [if_neg (by omega)] at h4; simpa using h4
  · rw [if_neg (by omega)] at h5; simpa using h5
  · rw [if_neg (by omega)] at h6; simpa using h6
  · rw [if_pos (by omega)] at h4; exact h4
  · rw [if_pos (by omega)] at h5; exact h5
  · rw [if_pos (by omega)] at h6; exact h6
  · rw [if_pos hk] at h7; simpa using h7
  · rw [if_neg (by omega), if_pos hk] at h7; simpa using h7

theorem many_le (k : Int) : 0 ≤ many k ∧ many k ≤ 3 := by unfold many; repeat' split <;> omega

/-- A node that may be has parts that are there. -/
theorem right_parts {L : List Nd} {n : Nd} (hp : 0 < L.length) (h : right L n = true) : has L n.a = true ∧ has L n.b = true ∧ has L n.c = true := by
  obtain ⟨⟨_, _, _, z1, z2, z3⟩, p1, p2, p3, _⟩ := right_spec h
  have hz : has L 0 = true := by rw [has_iff]; omega
  refine ⟨?_, ?_, ?_⟩
  · by_cases hm : 0 < many n.k
    · exact p1 hm
    · rw [z1 (by omega)]; exact hz
  · by_cases hm : 1 < many n.k
    · exact p2 hm
    · rw [z2 (by omega)]; exact hz
  · by_cases hm : 2 < many n.k
    · exact p3 hm
    · rw [z3 (by omega)]; exact hz

theorem Good.snoc {lim : Nat} {L : List Nd} (g : Good lim L) {n : Nd} (hr : right L n = true) (hf : find L n = none) (hl : L.length < lim) : Good lim (L ++ [n]) := by
  have hp := g.wf.pos
  obtain ⟨pa, pb, pc⟩ := right_parts hp hr
  rw [has_iff] at pa pb pc
  have old : ∀ x : Int, 0 ≤ x → x < L.length → nd (L ++ [n]) x = nd L x := fun x h0 h1 => nd_append (by rw [has_iff]; omega)
  have cases' : ∀ x : Int, x < ((L ++ [n]).length : Nat) → 0 ≤ x → x < L.length ∨ x = L.length := fun x h _ => by simp at h; omega
  refine ⟨⟨by simp, ?_, ?_, ?_, ?_⟩, ?_, ?_, by simp; omega, g.lim⟩
  · rw [old 0 (by omega) (by omega)]; exact g.wf.zero
  · intro x h0 h1
    rcases cases' x h1 (by omega) with h | h
    · rw [old x (by omega) h]; exact g.wf.pa x h0 h
    · subst h; rw [nd_snoc]; omega
  · intro x h0 h1
    rcases cases' x h1 (by omega) with h | h
    · rw [old x (by omega) h]; exact g.wf.pb x h0 h
    · subst h; rw [nd_snoc]; omega
  · intro x h0 h1
    rcases cases' x h1 (by omega) with h | h
    · rw [old x (by omega) h]; exact g.wf.pc x h0 h
    · subst h; rw [nd_snoc]; omega
  · intro x y hx hy e
    rcases has_snoc.1 hx with h1 | h1 <;> rcases has_snoc.1 hy with h2 | h2
    · rw [nd_append h1, nd_append h2] at e; exact g.uniq x y h1 h2 e
    · subst h2; rw [nd_append h1, nd_snoc] at e; exact absurd e (find_none hf x h1)
    · subst h1; rw [nd_append h2, nd_snoc] at e; exact absurd e.symm (find_none hf y h2)
    · rw [h1, h2]
  · intro x hx
    rcases has_snoc.1 hx with h | h
    · rw [nd_append h]; exact g.shape x h
    · subst h; rw [nd_snoc]; exact (right_spec hr).1

theorem good_new {lim : Nat} (h1 : 1 ≤ lim) (h2 : lim ≤ 65536) : Good lim [Nd.z] := by
  have only : ∀ x : Int, has [Nd.z] x = true → x = 0 := fun x h => by rw [has_iff] at h; simp at h; omega
  refine ⟨⟨by simp, rfl, ?_, ?_, ?_⟩, ?_, ?_, by simpa using h1, h2⟩
  · intro x h0 hx; simp at hx; omega
  · intro x h0 hx; simp at hx; omega
  · intro x h0 hx; simp at hx; omega
  · intro x y hx hy _; rw [only x hx, only y hy]
  · intro x hx
    rw [only x hx]
    simp [nd, shape, Nd.z, numbered, many]

/-- What making gives. -/
theorem mk_cases (lim : Nat) (L : List Nd) (n : Nd) :
    (mk lim L n = (L, 0, 1) ∧ right L n = false) ∨ (∃ i : Nat, mk lim L n = (L, (i : Int), 0) ∧ right L n = true ∧ find L n = some i) ∨
    (mk lim L n = (L, 0, 3) ∧ right L n = true ∧ find L n = none ∧ lim ≤ L.length) ∨ (mk lim L n = (L ++ [n], (L.length : Int), 0) ∧ right L n = true ∧ find L n = none ∧ L.length < lim) := by
  unfold mk
  cases hr : right L n with
  | false => exact .inl ⟨by simp, rfl⟩
  | true =>
    cases hf : find L n with
    | some i => exact .inr (.inl ⟨i, by simp, rfl, rfl⟩)
    | none =>
      by_cases hl : lim ≤ L.length
      · exact .inr (.inr (.inl ⟨by simp [hl], rfl, rfl, hl⟩))
      · exact .inr (.inr (.inr ⟨by simp [hl], rfl, rfl, by omega⟩))

theorem mk_good {lim : Nat} {L : List Nd} (g : Good lim L) (n : Nd) : Good lim (mk lim L n).1 := by
  rcases mk_cases lim L n with ⟨h, _⟩ | ⟨i, h, _⟩ | ⟨h, _⟩ | ⟨h, hr, hf, hl⟩ <;> rw [h]
  · exact g
  · exact g
  · exact g
  · exact g.snoc hr hf hl

theorem mk_prefix (lim : Nat) (L : List Nd) (n : Nd) : ∃ M, (mk lim L n).1 = L ++ M := by
  rcases mk_cases lim L n with ⟨h, _⟩ | ⟨i, h, _⟩ | ⟨h, _⟩ | ⟨h, _⟩ <;> rw [h]
  · exact ⟨[], by simp⟩
  · exact ⟨[], by simp⟩
  · exact ⟨[], by simp⟩
  · exact ⟨[n], rfl⟩

/-- A node that was made is there. -/
theorem mk_made {lim : Nat} {L : List Nd} {n : Nd} (h : (mk lim L n).2.2 = 0) : has (mk lim L n).1 (mk lim L n).2.1 = true ∧ nd (mk lim L n).1 (mk lim L n).2.1 = n := by
  rcases mk_cases lim L n with ⟨h1, _⟩ | ⟨i, h1, _, hf⟩ | ⟨h1, _⟩ | ⟨h1, _⟩ <;> rw [h1] at h ⊢
  · cases h
  · have := find_some hf
    exact ⟨has_of this.1, this.2⟩
  · cases h
  · exact ⟨has_snoc.2 (.inr rfl), nd_snoc⟩

theorem mk_err (lim : Nat) (L : List Nd) (n : Nd) : (mk lim L n).2.2 = 0 ∨ (mk lim L n).2.1 = 0 ∧ (mk lim L n).1 = L ∧ ((mk lim L n).2.2 = 1 ∨ (mk lim L n).2.2 = 3) := by
  rcases mk_cases lim L n with ⟨h1, _⟩ | ⟨i, h1, _, hf⟩ | ⟨h1, _⟩ | ⟨h1, _⟩ <;> rw [h1]
  · exact .inr ⟨rfl, rfl, .inl rfl⟩
  · exact .inl rfl
  · exact .inr ⟨rfl, rfl, .inr rfl⟩
  · exact .inl rfl

/-- Comparing terms that are there is the same in a greater arena. -/
theorem cmp_append {L M : List Nd} (hw : Wf L) (hw' : Wf (L ++ M)) : ∀ (m : Nat) (x y : Int), has L x = true → has L y = true → x < m → y < m → cmp (L ++ M) x y = cmp L x y := by
  intro m
  induction m with
  | zero => intro x y hx _ h; rw [has_iff] at hx; omega
  | succ m ih =>
    intro x y hx hy hxm hym
    rw [cmp_eq hw' x y, cmp_eq hw x y]
    by_cases e : x = y
    · simp [e]
    rw [if_neg e, if_neg e, if_pos ⟨has_append hx, has_append hy⟩, if_pos ⟨hx, hy⟩, nd_append hx, nd_append hy]
    have px := parts_lt hw hx hxm
    have py := parts_lt hw hy hym
    have bx : (nd L x).a < m ∧ (nd L x).b < m ∧ (nd L x).c < m ∨ x = 0 := by
      by_cases z : x = 0
      · exact .inr z
      · have := px.2.2.2 (by rw [has_iff] at hx; omega); left; omega
    have by' : (nd L y).a < m ∧ (nd L y).b < m ∧ (nd L y).c < m ∨ y = 0 := by
      by_cases z : y = 0
      · exact .inr z
      · have := py.2.2.2 (by rw [has_iff] at hy; omega); left; omega
    have hm1 : 1 ≤ m := by rw [has_iff] at hx hy; omega
    have z0 : (nd L 0).a < m ∧ (nd L 0).b < m ∧ (nd L 0).c < m := by rw [hw.zero]; simp [Nd.z]; omega
    have bx' : (nd L x).a < m ∧ (nd L x).b < m ∧ (nd L x).c < m := by rcases bx with h | h; exact h; rw [h]; exact z0
    have by'' : (nd L y).a < m ∧ (nd L y).b < m ∧ (nd L y).c < m := by rcases by' with h | h; exact h; rw [h]; exact z0
    rw [ih _ _ px.1 py.1 bx'.1 by''.1, ih _ _ px.2.1 py.2.1 bx'.2.1 by''.2.1, ih _ _ px.2.2.1 py.2.2.1 bx'.2.2 by''.2.2]
end Go.Proofs.Ythejfodjielahaa
