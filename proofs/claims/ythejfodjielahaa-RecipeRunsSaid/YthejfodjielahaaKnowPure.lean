/-
  The plain words of the layer of what is known: what can be made of what is known; the least set that is closed. No program.
-/
import Derived.Test.YthejfodjielahaaTermRt
namespace Go.Proofs.Ythejfodjielahaa
set_option maxRecDepth 8000
set_option linter.unusedSimpArgs false
set_option linter.unusedVariables false

/-- Is a term's public key known? -/
def pubK (L : List Nd) (K : Int → Bool) (y : Int) : Bool :=
  match find L ⟨2, 0, y, 0, 0⟩ with
  | some i => K (i : Nat)
  | none => false

/-- What can be made: a round, where 'c' tells it of the parts. -/
def canR (L : List Nd) (K c : Int → Bool) (x : Int) : Bool :=
  if (nd L x).k = 0 ∨ (nd L x).k = 9 then true
  else if (nd L x).k = 1 then decide (4294967296 ≤ (nd L x).n)
  else if (nd L x).k = 2 then c (nd L x).a
  else if (nd L x).k = 3 then (c (nd L x).a && (pubK L K (nd L x).b || c (nd L x).b)) || (c (nd L x).b && (pubK L K (nd L x).a || c (nd L x).a))
  else if (nd L x).k = 7 then c (nd L x).a && c (nd L x).b && c (nd L x).c
  else c (nd L x).a && c (nd L x).b

def canF : Nat → List Nd → (Int → Bool) → Int → Bool
  | 0, _, _, _ => false
  | f + 1, L, K, x => if has L x = true then K x || canR L K (canF f L K) x else false

def can (L : List Nd) (K : Int → Bool) (x : Int) : Bool := canF (L.length + 1) L K x

/-- The parts that count are smaller, or the kind asks for none. -/
theorem canR_congr {L : List Nd} {K c c' : Int → Bool} {x : Int} (h0 : (nd L x).k = 0 ∨ (nd L x).k = 9 ∨ (c (nd L x).a = c' (nd L x).a ∧ c (nd L x).b = c' (nd L x).b ∧ c (nd L x).c = c' (nd L x).c)) : canR L K c x = canR L K c' x := by
  unfold canR
  rcases h0 with h | h | ⟨h1, h2, h3⟩
  · simp [h]
  · simp [h]
  · rw [h1, h2, h3]

theorem nd_parts {lim : Nat} {L : List Nd} (g : Good lim L) {x : Int} (hx : has L x = true) : (nd L x).k = 0 ∨ (has L (nd L x).a = true ∧ has L (nd L x).b = true ∧ has L (nd L x).c = true ∧ (nd L x).a < x ∧ (nd L x).b < x ∧ (nd L x).c < x) := by
  by_cases h0 : x = 0
  · subst h0; left; rw [g.wf.zero]; rfl
  · have := parts_lt g.wf (m := L.length) hx (has_iff.1 hx).2
    have h := has_iff.1 hx
    exact .inr ⟨this.1, this.2.1, this.2.2.1, this.2.2.2 (by omega)⟩

theorem canF_same {lim : Nat} {L : List Nd} (g : Good lim L) (K : Int → Bool) : ∀ (f f' : Nat) (x : Int), (has L x = true → x < f ∧ x < f') → canF f L K x = canF f' L K x := by
  intro f
  induction f with
  | zero =>
    intro f' x h
    by_cases hx : has L x = true
    · have := h hx; have := has_iff.1 hx; omega
    · cases f' with
      | zero => rfl
      | succ f' => simp only [canF]; rw [if_neg hx]
  | succ f ih =>
    intro f' x h
    by_cases hx : has L x = true
    · obtain ⟨h1, h2⟩ := h hx
      have h0 := has_iff.1 hx
      obtain ⟨f', rfl⟩ : ∃ m, f' = m + 1 := ⟨f' - 1, by omega⟩
      simp only [canF]
      rw [if_pos hx, if_pos hx]
      congr 1
      refine canR_congr ?_
      rcases nd_parts g hx with hk | ⟨a1, a2, a3, b1, b2, b3⟩
      · exact .inl hk
      · exact .inr (.inr ⟨ih f' _ (fun _ => by omega), ih f' _ (fun _ => by omega), ih f' _ (fun _ => by omega)⟩)
    · simp only [canF]
      rw [if_neg hx]
      cases f' with
      | zero => rfl
      | succ f' => simp only [canF]; rw [if_neg hx]

/-- What making is. -/
theorem can_eq {lim : Nat} {L : List Nd} (g : Good lim L) (K : Int → Bool) {x : Int} (hx : has L x = true) : can L K x = (K x || canR L K (can L K) x) := by
  unfold can
  conv => lhs; unfold canF
  rw [if_pos hx]
  congr 1
  refine canR_congr ?_
  rcases nd_parts g hx with hk | ⟨a1, a2, a3, b1, b2, b3⟩
  · exact .inl hk
  · have h0 := has_iff.1 hx
    exact .inr (.inr ⟨canF_same g K _ _ _ (fun h => by have := has_iff.1 h; omega), canF_same g K _ _ _ (fun h => by have := has_iff.1 h; omega), canF_same g K _ _ _ (fun h => by have := has_iff.1 h; omega)⟩)
theorem can_out {L : List Nd} {K : Int → Bool} {x : Int} (hx : has L x = false) : can L K x = false := by
  unfold can canF; rw [if_neg (by simp [hx])]
theorem can_has {L : List Nd} {K : Int → Bool} {x : Int} (h : can L K x = true) : has L x = true := by
  cases hx : has L x with
  | true => rfl
  | false => rw [can_out hx] at h; cases h
theorem can_known {lim : Nat} {L : List Nd} (g : Good lim L) {K : Int → Bool} {x : Int} (hx : has L x = true) (h : K x = true) : can L K x = true := by rw [can_eq g K hx, h]; rfl

theorem pubK_mono {L : List Nd} {K K' : Int → Bool} (h : ∀ y, K y = true → K' y = true) {y : Int} (hp : pubK L K y = true) : pubK L K' y = true := by
  unfold pubK at *
  cases hf : find L ⟨2, 0, y, 0, 0⟩ with
  | none => rw [hf] at hp; cases hp
  | some i => rw [hf] at hp; exact h _ hp
theorem canR_mono {L : List Nd} {K K' c c' : Int → Bool} {x : Int} (hK : ∀ y, pubK L K y = true → pubK L K' y = true) (hc : ∀ y, c y = true → c' y = true) (h : canR L K c x = true) : canR L K' c' x = true := by
  unfold canR at *
  by_cases k0 : (nd L x).k = 0 ∨ (nd L x).k = 9
  · rw [if_pos k0]
  rw [if_neg k0] at h ⊢
  by_cases k1 : (nd L x).k = 1
  · rw [if_pos k1] at h ⊢; exact h
  rw [if_neg k1] at h ⊢
  by_cases k2 : (nd L x).k = 2
  · rw [if_pos k2] at h ⊢; exact hc _ h
  rw [if_neg k2] at h ⊢
  by_cases k3 : (nd L x).k = 3
  · rw [if_pos k3] at h ⊢
    simp only [Bool.or_eq_true, Bool.and_eq_true] at h ⊢
    rcases h with ⟨h1, h2 | h2⟩ | ⟨h1, h2 | h2⟩
    · exact .inl ⟨hc _ h1, .inl (hK _ h2)⟩
    · exact .inl ⟨hc _ h1, .inr (hc _ h2)⟩
    · exact .inr ⟨hc _ h1, .inl (hK _ h2)⟩
    · exact .inr ⟨hc _ h1, .inr (hc _ h2)⟩
  rw [if_neg k3] at h ⊢
  by_cases k7 : (nd L x).k = 7
  · rw [if_pos k7] at h ⊢
    simp only [Bool.and_eq_true] at h ⊢
    exact ⟨⟨hc _ h.1.1, hc _ h.1.2⟩, hc _ h.2⟩
  rw [if_neg k7] at h ⊢
  simp only [Bool.and_eq_true] at h ⊢
  exact ⟨hc _ h.1, hc _ h.2⟩
theorem canF_mono {L : List Nd} {K K' : Int → Bool} (h : ∀ y, K y = true → K' y = true) : ∀ (f : Nat) (x : Int), canF f L K x = true → canF f L K' x = true := by
  intro f
  induction f with
  | zero => intro x hx; simp [canF] at hx
  | succ f ih =>
    intro x hx
    simp only [canF] at hx ⊢
    split
    · rename_i hh
      rw [if_pos hh] at hx
      simp only [Bool.or_eq_true] at hx ⊢
      rcases hx with h1 | h1
      · exact .inl (h _ h1)
      · exact .inr (canR_mono (fun y => pubK_mono h) (fun y => ih y) h1)
    · rename_i hh; rw [if_neg hh] at hx; exact hx
theorem can_mono {L : List Nd} {K K' : Int → Bool} (h : ∀ y, K y = true → K' y = true) {x : Int} (hx : can L K x = true) : can L K' x = true := canF_mono h _ _ hx
theorem can_congr {L : List Nd} {K K' : Int → Bool} (h : ∀ y, K y = K' y) (x : Int) : can L K x = can L K' x := by
  have : K = K' := funext h
  rw [this]

/-- What can be made of what can be made can be made. -/
theorem can_idem {lim : Nat} {L : List Nd} (g : Good lim L) (K : Int → Bool) : ∀ (f : Nat) (x : Int), x < f → can L (can L K) x = true → can L K x = true := by
  intro f
  induction f with
  | zero => intro x hx h; have := has_iff.1 (can_has h); omega
  | succ f ih =>
    intro x hlt h
    have hx := can_has h
    rw [can_eq g _ hx] at h
    simp only [Bool.or_eq_true] at h
    rcases h with h | h
    · exact h
    rw [can_eq g K hx]
    simp only [Bool.or_eq_true]
    right
    have hp := nd_parts g hx
    have hpub : ∀ y : Int, pubK L (can L K) y = true → pubK L K y = true ∨ can L K y = true := by
      intro y hy
      unfold pubK at hy ⊢
      cases hf : find L ⟨2, 0, y, 0, 0⟩ with
      | none => rw [hf] at hy; cases hy
      | some i =>
        rw [hf] at hy
        obtain ⟨h1, h2⟩ := find_some hf
        simp only at hy ⊢
        rw [can_eq g K (has_of h1)] at hy
        simp only [Bool.or_eq_true] at hy
        rcases hy with hy | hy
        · exact .inl hy
        · right
          unfold canR at hy
          rw [h2] at hy
          simpa using hy
    have ihp : ∀ y : Int, y < x → can L (can L K) y = true → can L K y = true := fun y hy => ih y (by omega)
    unfold canR at h ⊢
    by_cases k0 : (nd L x).k = 0 ∨ (nd L x).k = 9
    · rw [if_pos k0]
    rw [if_neg k0] at h ⊢
    by_cases k1 : (nd L x).k = 1
    · rw [if_pos k1] at h ⊢; exact h
    rw [if_neg k1] at h ⊢
    rcases hp with hk | ⟨a1, a2, a3, b1, b2, b3⟩
    · exact absurd (.inl hk) k0
    have ia := ihp _ b1
    have ib := ihp _ b2
    have ic := ihp _ b3
    have pa := hpub (nd L x).a
    have pb := hpub (nd L x).b
    by_cases k2 : (nd L x).k = 2
    · rw [if_pos k2] at h ⊢; exact ia h
    rw [if_neg k2] at h ⊢
    by_cases k3 : (nd L x).k = 3
    · rw [if_pos k3] at h ⊢
      simp only [Bool.or_eq_true, Bool.and_eq_true] at h ⊢
      rcases h with ⟨h1, h2⟩ | ⟨h1, h2⟩
      · rcases h2 with h2 | h2
        · exact .inl ⟨ia h1, pb h2⟩
        · exact .inl ⟨ia h1, .inr (ib h2)⟩
      · rcases h2 with h2 | h2
        · exact .inr ⟨ib h1, pa h2⟩
        · exact .inr ⟨ib h1, .inr (ia h2)⟩
    rw [if_neg k3] at h ⊢
    by_cases k7 : (nd L x).k = 7
    · rw [if_pos k7] at h ⊢
      simp only [Bool.and_eq_true] at h ⊢
      exact ⟨⟨ia h.1.1, ib h.1.2⟩, ic h.2⟩
    rw [if_neg k7] at h ⊢
    simp only [Bool.and_eq_true] at h ⊢
    exact ⟨ia h.1, ib h.2⟩
theorem can_can {lim : Nat} {L : List Nd} (g : Good lim L) (K : Int → Bool) {x : Int} (h : can L (can L K) x = true) : can L K x = true :=
  can_idem g K L.length x (has_iff.1 (can_has h)).2 h

/-! ### What is closed -/
structure Closed (L : List Nd) (K : Int → Bool) : Prop where
  pair : ∀ x, K x = true → (nd L x).k = 8 → K (nd L x).a = true ∧ K (nd L x).b = true
  opn : ∀ x, K x = true → (nd L x).k = 7 → can L K (nd L x).a = true → K (nd L x).c = true

/-- The least closed set above one. -/
noncomputable def cl (L : List Nd) (K : Int → Bool) : Int → Bool := fun x =>
  @decide (∀ C : Int → Bool, Closed L C → (∀ y, K y = true → C y = true) → C x = true) (Classical.propDecidable _)

theorem cl_iff {L : List Nd} {K : Int → Bool} {x : Int} : cl L K x = true ↔ ∀ C : Int → Bool, Closed L C → (∀ y, K y = true → C y = true) → C x = true := by
  unfold cl; exact @decide_eq_true_iff _ (Classical.propDecidable _)
theorem cl_sub {L : List Nd} {K : Int → Bool} {x : Int} (h : K x = true) : cl L K x = true := cl_iff.2 fun C _ hs => hs x h
theorem cl_least {L : List Nd} {K C : Int → Bool} (hC : Closed L C) (hs : ∀ y, K y = true → C y = true) {x : Int} (h : cl L K x = true) : C x = true := cl_iff.1 h C hC hs
theorem cl_closed (L : List Nd) (K : Int → Bool) : Closed L (cl L K) := by
  refine ⟨fun x hx hk => ?_, fun x hx hk hc => ?_⟩
  · exact ⟨cl_iff.2 fun C hC hs => (hC.pair x (cl_least hC hs hx) hk).1, cl_iff.2 fun C hC hs => (hC.pair x (cl_least hC hs hx) hk).2⟩
  · exact cl_iff.2 fun C hC hs => hC.opn x (cl_least hC hs hx) hk (can_mono (fun y hy => cl_least hC hs hy) hc)
theorem cl_unique {L : List Nd} {K K' : Int → Bool} (h1 : Closed L K') (h2 : ∀ y, K y = true → K' y = true) (h3 : ∀ C, Closed L C → (∀ y, K y = true → C y = true) → ∀ y, K' y = true → C y = true) : K' = cl L K := by
  funext x
  rw [Bool.eq_iff_iff]
  exact ⟨fun h => cl_iff.2 fun C hC hs => h3 C hC hs x h, fun h => cl_least h1 h2 h⟩
theorem cl_mono {L : List Nd} {K K' : Int → Bool} (h : ∀ y, K y = true → K' y = true) {x : Int} (hx : cl L K x = true) : cl L K' x = true := cl_least (cl_closed L K') (fun y hy => cl_sub (h y hy)) hx
theorem cl_of_closed {L : List Nd} {K : Int → Bool} (h : Closed L K) : cl L K = K := (cl_unique h (fun _ h => h) (fun C _ hs => hs)).symm

/-- One more. -/
def ins (K : Int → Bool) (x : Int) : Int → Bool := fun y => K y || decide (y = x)
theorem ins_iff {K : Int → Bool} {x y : Int} : ins K x y = true ↔ K y = true ∨ y = x := by simp [ins]
/-- Refs are learned. -/
noncomputable def learnAll (L : List Nd) (refs : List Int) (K : Int → Bool) : Int → Bool := refs.foldl (fun K x => if has L x = true then cl L (ins K x) else K) K
def valid (L : List Nd) (refs : List Int) (K : Int → Bool) : Int → Bool := fun y => K y || (has L y && decide (y ∈ refs))

theorem cl_ins (L : List Nd) (K : Int → Bool) (x : Int) : cl L (ins (cl L K) x) = cl L (ins K x) := by
  refine cl_unique (cl_closed _ _) (fun y hy => cl_sub ?_) (fun C hC hs y hy => cl_least hC (fun z hz => ?_) hy)
  · rcases ins_iff.1 hy with h | h
    · exact ins_iff.2 (.inl (cl_sub h))
    · exact ins_iff.2 (.inr h)
  · rcases ins_iff.1 hz with h | h
    · exact cl_least hC (fun u hu => hs u (ins_iff.2 (.inl hu))) h
    · exact hs z (ins_iff.2 (.inr h))

theorem learnAll_eq {L : List Nd} : ∀ (refs : List Int) (K : Int → Bool), learnAll L refs (cl L K) = cl L (valid L refs K) := by
  intro refs
  induction refs with
  | nil =>
    intro K
    have : valid L [] K = K := by funext y; simp [valid]
    rw [this]; rfl
  | cons x refs ih =>
    intro K
    unfold learnAll
    rw [List.foldl_cons]
    by_cases hx : has L x = true
    · rw [if_pos hx, cl_ins]
      have := ih (ins K x)
      unfold learnAll at this
      rw [this]
      congr 1
      funext y
      simp only [valid, ins, List.mem_cons, Bool.or_assoc]
      congr 1
      by_cases e : y = x
      · subst e; simp [hx]
      · simp [e]
    · rw [if_neg hx]
      have := ih K
      unfold learnAll at this
      rw [this]
      congr 1
      funext y
      simp only [valid, List.mem_cons]
      congr 1
      by_cases e : y = x
      · subst e; simp [hx]
      · simp [e]
theorem closed_none (L : List Nd) : Closed L (fun _ => false) := ⟨by simp, by simp⟩
theorem learnAll_none {L : List Nd} (refs : List Int) : learnAll L refs (fun _ => false) = cl L (valid L refs fun _ => false) := by
  have := learnAll_eq (L := L) refs (fun _ => false)
  rwa [cl_of_closed (closed_none L)] at this
theorem learnAll_closed {L : List Nd} (refs : List Int) : Closed L (learnAll L refs fun _ => false) := by rw [learnAll_none]; exact cl_closed _ _

/-- What has L's terms alone stays so. -/
theorem closed_has {lim : Nat} {L : List Nd} (g : Good lim L) : Closed L (has L) := by
  refine ⟨fun x hx hk => ?_, fun x hx hk _ => ?_⟩
  · rcases nd_parts g hx with h | ⟨h1, h2, h3, _⟩
    · omega
    · exact ⟨h1, h2⟩
  · rcases nd_parts g hx with h | ⟨h1, h2, h3, _⟩
    · omega
    · exact h3
theorem cl_has {lim : Nat} {L : List Nd} (g : Good lim L) {K : Int → Bool} (h : ∀ y, K y = true → has L y = true) {x : Int} (hx : cl L K x = true) : has L x = true := cl_least (closed_has g) h hx

/-- What can be made is closed. -/
theorem closed_can {lim : Nat} {L : List Nd} (g : Good lim L) {K : Int → Bool} (hK : Closed L K) (hh : ∀ y, K y = true → has L y = true) : Closed L (can L K) := by
  have key : ∀ x, can L K x = true → K x = true ∨ canR L K (can L K) x = true := fun x hx => by
    have := can_eq g K (can_has hx)
    rw [hx] at this
    simpa using this.symm
  refine ⟨fun x hx hk => ?_, fun x hx hk hc => ?_⟩
  · rcases key x hx with h | h
    · obtain ⟨h1, h2⟩ := hK.pair x h hk
      exact ⟨can_known g (hh _ h1) h1, can_known g (hh _ h2) h2⟩
    · unfold canR at h
      rw [if_neg (by omega), if_neg (by omega), if_neg (by omega), if_neg (by omega), if_neg (by omega)] at h
      simpa using h
  · have hc' := can_can g K hc
    rcases key x hx with h | h
    · have := hK.opn x h hk hc'
      exact can_known g (hh _ this) this
    · unfold canR at h
      rw [if_neg (by omega), if_neg (by omega), if_neg (by omega), if_neg (by omega), if_pos hk] at h
      simp only [Bool.and_eq_true] at h
      exact h.2
theorem can_learn {lim : Nat} {L : List Nd} (g : Good lim L) {K : Int → Bool} (hK : Closed L K) (hh : ∀ y, K y = true → has L y = true) {x : Int} (hx : can L K x = true) (i : Int) : can L (cl L (ins K x)) i = can L K i := by
  rw [Bool.eq_iff_iff]
  refine ⟨fun h => can_can g K (can_mono (fun y hy => cl_least (closed_can g hK hh) (fun z hz => ?_) hy) h), fun h => can_mono (fun y hy => cl_sub (ins_iff.2 (.inl hy))) h⟩
  rcases ins_iff.1 hz with h1 | h1
  · exact can_known g (hh _ h1) h1
  · rw [h1]; exact hx
end Go.Proofs.Ythejfodjielahaa
