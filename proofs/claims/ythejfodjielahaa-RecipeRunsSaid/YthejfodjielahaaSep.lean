/-
  What a world owns: a list of items, each on blocks of its own, all new since a world 'we', and a list of blocks that are only read. Holds of every world.
-/
import Derived.WalkKit
namespace Go.Proofs.Ythejfodjielahaa
set_option maxRecDepth 8000
open Go Go.RowKit

/-- An item: what it says of a world and of the blocks that are its own. It hangs on these blocks alone. -/
structure HP where
  holds : World → List Nat → Prop
  loc : ∀ {w w' : World} {X : List Nat}, holds w X → (∀ b ∈ X, w'.heap[b]? = w.heap[b]?) → holds w' X

/-- One block that holds an object. -/
def Blk (b : Nat) (o : Obj) : HP where
  holds w X := X = [b] ∧ w.heap[b]? = some o
  loc := fun ⟨hx, h⟩ hk => ⟨hx, by rw [hk _ (by simp [hx])]; exact h⟩

/-- A row of cells. -/
abbrev Row (b : Nat) (cs : List Value) (e : TypeId) : HP := Blk b (.cells cs.toArray e (0, 0))

def HP.star (A B : HP) : HP where
  holds w X := ∃ X1 X2, X = X1 ++ X2 ∧ A.holds w X1 ∧ B.holds w X2
  loc := fun ⟨X1, X2, hx, h1, h2⟩ hk => ⟨X1, X2, hx, A.loc h1 (fun b hb => hk b (by simp [hx, hb])), B.loc h2 (fun b hb => hk b (by simp [hx, hb]))⟩

def HP.ex {α : Type} (f : α → HP) : HP where
  holds w X := ∃ a, (f a).holds w X
  loc := fun ⟨a, h⟩ hk => ⟨a, (f a).loc h hk⟩

/-- An item under a plain fact. -/
def HP.pure (p : Prop) (A : HP) : HP where
  holds w X := p ∧ A.holds w X
  loc := fun ⟨hp, h⟩ hk => ⟨hp, A.loc h hk⟩

def sep : List HP → World → List Nat → Prop
  | [], _, X => X = []
  | A :: σ, w, X => ∃ X1 X2, X = X1 ++ X2 ∧ A.holds w X1 ∧ sep σ w X2

theorem sep_loc : ∀ {σ : List HP} {w w' : World} {X : List Nat}, sep σ w X → (∀ b ∈ X, w'.heap[b]? = w.heap[b]?) → sep σ w' X
  | [], _, _, _, h, _ => h
  | A :: _, _, _, _, ⟨X1, X2, hx, h1, h2⟩, hk =>
    ⟨X1, X2, hx, A.loc h1 (fun b hb => hk b (by simp [hx, hb])), sep_loc h2 (fun b hb => hk b (by simp [hx, hb]))⟩

/-- The state: 'w' has come out of 'we': below we's size nothing has turned; the items of 'σ' lie on blocks of their own, all new since 'we'; the blocks of 'ρ' are read alone. -/
structure St (we : World) (ρ : List (Nat × Obj)) (σ : List HP) (w : World) : Prop where
  below : Below we.heap.size we w
  own : ∃ X, sep σ w X ∧ X.Nodup ∧ (∀ b ∈ X, we.heap.size ≤ b ∧ b < w.heap.size) ∧ (∀ x ∈ ρ, x.1 ∉ X)
  ro : ∀ x ∈ ρ, w.heap[x.1]? = some x.2

/-- An item of a list. -/
inductive Has (A : HP) : List HP → Prop
  | head {σ} : Has A (A :: σ)
  | tail {B σ} : Has A σ → Has A (B :: σ)

/-- An item, and what is left. -/
inductive Take (A : HP) : List HP → List HP → Prop
  | head {σ} : Take A (A :: σ) σ
  | tail {B σ σ'} : Take A σ σ' → Take A (B :: σ) (B :: σ')

/-- An item turned into another. -/
inductive Put (A A' : HP) : List HP → List HP → Prop
  | head {σ} : Put A A' (A :: σ) (A' :: σ)
  | tail {B σ σ'} : Put A A' σ σ' → Put A A' (B :: σ) (B :: σ')

theorem Put.take {A A' : HP} {σ σ' : List HP} (h : Put A A' σ σ') : ∃ F, Take A σ F ∧ Take A' σ' F := by
  induction h with
  | head => exact ⟨_, .head, .head⟩
  | tail _ ih => obtain ⟨F, h1, h2⟩ := ih; exact ⟨_, .tail h1, .tail h2⟩

theorem Has.take {A : HP} {σ : List HP} (h : Has A σ) : ∃ F, Take A σ F := by
  induction h with
  | head => exact ⟨_, .head⟩
  | tail _ ih => obtain ⟨F, h1⟩ := ih; exact ⟨_, .tail h1⟩

theorem Put.has {A A' : HP} {σ σ' : List HP} (h : Put A A' σ σ') : Has A σ := by
  induction h with
  | head => exact .head
  | tail _ ih => exact .tail ih

theorem Take.has {A : HP} {σ σ' : List HP} (h : Take A σ σ') : Has A σ := by
  induction h with
  | head => exact .head
  | tail _ ih => exact .tail ih

theorem Put.same {A : HP} {σ : List HP} (h : Has A σ) : Put A A σ σ := by
  induction h with
  | head => exact .head
  | tail _ ih => exact .tail ih

/-- Taking an item out, as a list of blocks. -/
theorem sep_take {A : HP} {σ F : List HP} (h : Take A σ F) : ∀ {w : World} {X : List Nat}, sep σ w X →
    ∃ X1 X2, X.Perm (X1 ++ X2) ∧ A.holds w X1 ∧ sep F w X2 := by
  induction h with
  | head => rintro w X ⟨X1, X2, rfl, h1, h2⟩; exact ⟨X1, X2, .refl _, h1, h2⟩
  | tail _ ih =>
    rintro w X ⟨Y1, Y2, rfl, h1, h2⟩
    obtain ⟨X1, X2, hp, ha, hs⟩ := ih h2
    refine ⟨X1, Y1 ++ X2, ?_, ha, Y1, X2, rfl, h1, hs⟩
    exact (List.Perm.append_left Y1 hp).trans (List.perm_append_comm_assoc Y1 X1 X2)

/-- Laying an item back. -/
theorem sep_untake {A : HP} {σ F : List HP} (h : Take A σ F) : ∀ {w : World} {X1 X2 : List Nat}, A.holds w X1 → sep F w X2 →
    ∃ X, X.Perm (X1 ++ X2) ∧ sep σ w X := by
  induction h with
  | head => intro w X1 X2 h1 h2; exact ⟨X1 ++ X2, .refl _, X1, X2, rfl, h1, h2⟩
  | tail _ ih =>
    rintro w X1 X2 h1 ⟨Y1, Y2, rfl, hb, h2⟩
    obtain ⟨X, hp, hs⟩ := ih h1 h2
    refine ⟨Y1 ++ X, ?_, Y1, X, rfl, hb, hs⟩
    exact (List.Perm.append_left Y1 hp).trans (List.perm_append_comm_assoc Y1 X1 Y2)

/-- A list of items found among others. -/
inductive Picks : List HP → List HP → Prop
  | all {σ} : Picks σ σ
  | nil {σ} : Picks [] σ
  | cons {A σ F r} : Take A σ F → Picks r F → Picks (A :: r) σ
  | drop {B σ r} : Picks r σ → Picks r (B :: σ)

theorem sep_picks {σ' σ : List HP} (h : Picks σ' σ) : ∀ {w : World} {X : List Nat}, sep σ w X → ∃ Y Z, X.Perm (Y ++ Z) ∧ sep σ' w Y := by
  induction h with
  | all => intro w X h; exact ⟨X, [], by simp, h⟩
  | nil => intro w X h; exact ⟨[], X, by simp, rfl⟩
  | cons ht _ ih =>
    intro w X h
    obtain ⟨X1, X2, hp, ha, hf⟩ := sep_take ht h
    obtain ⟨Y, Z, hq, hs⟩ := ih hf
    refine ⟨X1 ++ Y, Z, ?_, X1, Y, rfl, ha, hs⟩
    rw [List.append_assoc]
    exact hp.trans (List.Perm.append_left X1 hq)
  | drop _ ih =>
    rintro w X ⟨X1, X2, rfl, _, h2⟩
    obtain ⟨Y, Z, hq, hs⟩ := ih h2
    refine ⟨Y, X1 ++ Z, ?_, hs⟩
    exact (List.Perm.append_left X1 hq).trans (List.perm_append_comm_assoc X1 Y Z)

section
variable {we w w' : World} {ρ : List (Nat × Obj)} {σ σ' F : List HP} {A A' B : HP}

theorem St.start (w : World) (ρ : List (Nat × Obj)) (h : ∀ x ∈ ρ, w.heap[x.1]? = some x.2) : St w ρ [] w :=
  ⟨Below.refl _ _, ⟨[], rfl, List.nodup_nil, by simp, by simp⟩, h⟩

theorem St.take (h : St we ρ σ w) (ht : Take A σ F) : St we ρ (A :: F) w := by
  obtain ⟨hb, ⟨X, hs, hn, hr, hρ⟩, hro⟩ := h
  obtain ⟨X1, X2, hp, ha, hf⟩ := sep_take ht hs
  refine ⟨hb, ⟨X1 ++ X2, ⟨X1, X2, rfl, ha, hf⟩, hp.nodup_iff.1 hn, fun b hb' => hr b (hp.mem_iff.2 hb'), fun x hx hx' => hρ x hx (hp.mem_iff.2 hx')⟩, hro⟩

theorem St.untake (h : St we ρ (A :: F) w) (ht : Take A σ F) : St we ρ σ w := by
  obtain ⟨hb, ⟨X, ⟨X1, X2, rfl, ha, hf⟩, hn, hr, hρ⟩, hro⟩ := h
  obtain ⟨X, hp, hs⟩ := sep_untake ht ha hf
  refine ⟨hb, ⟨X, hs, hp.nodup_iff.2 hn, fun b hb' => hr b (hp.mem_iff.1 hb'), fun x hx hx' => hρ x hx (hp.mem_iff.1 hx')⟩, hro⟩

theorem St.tail (h : St we ρ (A :: σ) w) : St we ρ σ w := by
  obtain ⟨hb, ⟨X, ⟨X1, X2, rfl, ha, hf⟩, hn, hr, hρ⟩, hro⟩ := h
  exact ⟨hb, ⟨X2, hf, (List.nodup_append.1 hn).2.1, fun b hb' => hr b (by simp [hb']), fun x hx hx' => hρ x hx (by simp [hx'])⟩, hro⟩

theorem St.take2 {F' : List HP} (h : St we ρ σ w) (ht : Take A σ F) (ht' : Take B F F') : St we ρ (A :: B :: F') w := by
  have h1 := h.take ht
  exact (h1.take (.tail ht')).take (.tail .head)
theorem St.untake2 {F' : List HP} (h : St we ρ (A :: B :: F') w) (ht : Take A σ F) (ht' : Take B F F') : St we ρ σ w :=
  ((h.take (.tail .head)).untake (.tail ht')).untake ht

theorem St.drop (h : St we ρ σ w) (ht : Take A σ F) : St we ρ F w := (h.take ht).tail

theorem St.picks (h : St we ρ σ w) (hp : Picks σ' σ) : St we ρ σ' w := by
  obtain ⟨hb, ⟨X, hs, hn, hr, hρ⟩, hro⟩ := h
  obtain ⟨Y, Z, hq, hs'⟩ := sep_picks hp hs
  have hn' := hq.nodup_iff.1 hn
  refine ⟨hb, ⟨Y, hs', (List.nodup_append.1 hn').1, fun b hb' => hr b (hq.mem_iff.2 (by simp [hb'])), fun x hx hx' => hρ x hx (hq.mem_iff.2 (by simp [hx']))⟩, hro⟩

theorem St.nil (h : St we ρ σ w) : St we ρ [] w := ⟨h.below, ⟨[], rfl, List.nodup_nil, by simp, by simp⟩, h.ro⟩

/-- The item at the head is turned: what it owns may be written, and may grow by new blocks. -/
theorem St.turn (h : St we ρ (A :: σ) w) (hos : w'.os = w.os) (htape : w'.tape = w.tape) (hout : w'.output = w.output) (hsize : w.heap.size ≤ w'.heap.size)
    (ht : ∀ X, A.holds w X → X.Nodup → ∃ X', A'.holds w' X' ∧ X'.Nodup ∧ (∀ b ∈ X', b ∈ X ∨ w.heap.size ≤ b) ∧ (∀ b ∈ X', b < w'.heap.size) ∧ (∀ b, b < w.heap.size → b ∉ X → w'.heap[b]? = w.heap[b]?)) :
    St we ρ (A' :: σ) w' := by
  obtain ⟨hb, ⟨X, ⟨X1, X2, rfl, ha, hf⟩, hn, hr, hρ⟩, hro⟩ := h
  obtain ⟨hn1, hn2, hd⟩ := List.nodup_append.1 hn
  obtain ⟨X', ha', hn', hsub, hlt, hk⟩ := ht X1 ha hn1
  have hsz := hb.size
  refine ⟨⟨hos.trans hb.os, htape.trans hb.tape, hout.trans hb.output, Nat.le_trans hb.size hsize, fun k hk' => ?_⟩,
    ⟨X' ++ X2, ⟨X', X2, rfl, ha', sep_loc hf (fun b hb2 => hk b (hr b (by simp [hb2])).2 (fun h1 => hd b h1 b hb2 rfl))⟩, ?_, ?_, ?_⟩, ?_⟩
  · rw [hk k (by omega) (fun h1 => by have := (hr k (by simp [h1])).1; omega)]
    exact hb.block k hk'
  · refine List.nodup_append.2 ⟨hn', hn2, fun a h1 b h2 e => ?_⟩
    subst e
    rcases hsub a h1 with h3 | h3
    · exact hd a h3 a h2 rfl
    · have := (hr a (by simp [h2])).2; omega
  · intro b hb2
    rcases List.mem_append.1 hb2 with h1 | h1
    · refine ⟨?_, hlt b h1⟩
      rcases hsub b h1 with h3 | h3
      · exact (hr b (by simp [h3])).1
      · omega
    · have := hr b (by simp [h1]); omega
  · intro x hx hx'
    rcases List.mem_append.1 hx' with h1 | h1
    · rcases hsub x.1 h1 with h3 | h3
      · exact hρ x hx (by simp [h3])
      · have := (Array.getElem?_eq_some_iff.1 (hro x hx)).1; omega
    · exact hρ x hx (by simp [h1])
  · intro x hx
    rw [hk x.1 (Array.getElem?_eq_some_iff.1 (hro x hx)).1 (fun h1 => hρ x hx (by simp [h1]))]
    exact hro x hx

theorem St.turnAt (h : St we ρ σ w) (hp : Put A A' σ σ') (hos : w'.os = w.os) (htape : w'.tape = w.tape) (hout : w'.output = w.output) (hsize : w.heap.size ≤ w'.heap.size)
    (ht : ∀ X, A.holds w X → X.Nodup → ∃ X', A'.holds w' X' ∧ X'.Nodup ∧ (∀ b ∈ X', b ∈ X ∨ w.heap.size ≤ b) ∧ (∀ b ∈ X', b < w'.heap.size) ∧ (∀ b, b < w.heap.size → b ∉ X → w'.heap[b]? = w.heap[b]?)) :
    St we ρ σ' w' := by
  obtain ⟨F, h1, h2⟩ := hp.take
  exact ((h.take h1).turn hos htape hout hsize ht).untake h2

/-- What owns nothing turns nothing: new blocks, draws. -/
theorem St.grow (h : St we ρ σ w) (hos : w'.os = w.os) (htape : w'.tape = w.tape) (hout : w'.output = w.output) (hsize : w.heap.size ≤ w'.heap.size)
    (hk : ∀ b, b < w.heap.size → w'.heap[b]? = w.heap[b]?) : St we ρ σ w' := by
  obtain ⟨hb, ⟨X, hs, hn, hr, hρ⟩, hro⟩ := h
  have hsz := hb.size
  refine ⟨⟨hos.trans hb.os, htape.trans hb.tape, hout.trans hb.output, Nat.le_trans hb.size hsize, fun k hk' => ?_⟩,
    ⟨X, sep_loc hs (fun b hb2 => hk b (hr b hb2).2), hn, fun b hb2 => by have := hr b hb2; omega, hρ⟩, fun x hx => ?_⟩
  · rw [hk k (by omega)]; exact hb.block k hk'
  · rw [hk x.1 (Array.getElem?_eq_some_iff.1 (hro x hx)).1]; exact hro x hx

theorem St.drew (h : St we ρ σ w) : St we ρ σ w.drew := h.grow rfl rfl rfl (Nat.le_refl _) (fun _ _ => rfl)
theorem St.drew' (h : St we ρ σ w) (n : Nat) : St we ρ σ { w with drawn := n } := h.grow rfl rfl rfl (Nat.le_refl _) (fun _ _ => rfl)

theorem St.alloc (h : St we ρ σ w) (o : Obj) : St we ρ (Blk w.heap.size o :: σ) (w.alloc o) := by
  have h' := h.grow (w' := w.alloc o) rfl rfl rfl (by simp) (fun b hb => Below.heap_alloc w o b hb)
  obtain ⟨hb', ⟨X, hs, hn, hr, hρ⟩, hro⟩ := h
  obtain ⟨hb2, _, hro2⟩ := h'
  have hsz := hb'.size
  refine ⟨hb2, ⟨w.heap.size :: X, ⟨[w.heap.size], X, rfl, ⟨rfl, heap_alloc_new w o⟩, sep_loc hs (fun b hb => Below.heap_alloc w o b (hr b hb).2)⟩, ?_, ?_, ?_⟩, hro2⟩
  · refine List.nodup_cons.2 ⟨fun hx => ?_, hn⟩
    have := (hr _ hx).2; omega
  · intro b hb3
    rcases List.mem_cons.1 hb3 with rfl | h1
    · simp; omega
    · have := hr b h1; simp; omega
  · intro x hx hx'
    rcases List.mem_cons.1 hx' with h1 | h1
    · have := (Array.getElem?_eq_some_iff.1 (hro x hx)).1; omega
    · exact hρ x hx h1

theorem St.lt (h : St we ρ σ w) {b : Nat} {o : Obj} (hm : Has (Blk b o) σ) : w.heap[b]? = some o := by
  obtain ⟨F, ht⟩ := hm.take
  obtain ⟨X, ⟨X1, X2, rfl, ha, _⟩, _⟩ := (h.take ht).own
  exact ha.2

theorem St.bound (h : St we ρ σ w) {b : Nat} {o : Obj} (hm : Has (Blk b o) σ) : we.heap.size ≤ b ∧ b < w.heap.size := by
  obtain ⟨F, ht⟩ := hm.take
  obtain ⟨X, ⟨X1, X2, rfl, ha, _⟩, _, hr, _⟩ := (h.take ht).own
  exact hr b (by simp [ha.1])

/-- One block is written. -/
theorem St.write (h : St we ρ σ w) {b : Nat} {o o' : Obj} (hp : Put (Blk b o) (Blk b o') σ σ') (hos : w'.os = w.os) (htape : w'.tape = w.tape) (hout : w'.output = w.output) (hsize : w'.heap.size = w.heap.size)
    (hb : w'.heap[b]? = some o') (hk : ∀ k, k ≠ b → w'.heap[k]? = w.heap[k]?) : St we ρ σ' w' := by
  refine h.turnAt hp hos htape hout (by omega) (fun X hX hn => ⟨[b], ⟨rfl, hb⟩, by simp, ?_, ?_, ?_⟩)
  · intro k hk'; rw [hX.1]; simp at hk'; simp [hk']
  · intro k hk'; simp at hk'; subst hk'
    exact (Array.getElem?_eq_some_iff.1 hb).1
  · intro k _ hk'; exact hk k (fun e => hk' (by rw [hX.1]; simp [e]))

/-- A block is given over to those that are read alone. -/
theorem St.freeze {b : Nat} {o : Obj} (h : St we ρ (Blk b o :: σ) w) : St we ((b, o) :: ρ) σ w := by
  obtain ⟨hb, ⟨X, ⟨X1, X2, rfl, ha, hf⟩, hn, hr, hρ⟩, hro⟩ := h
  obtain ⟨hn1, hn2, hd⟩ := List.nodup_append.1 hn
  obtain ⟨rfl, ho⟩ := ha
  refine ⟨hb, ⟨X2, hf, hn2, fun k hk => hr k (by simp [hk]), ?_⟩, ?_⟩
  · intro x hx
    rcases List.mem_cons.1 hx with rfl | h1
    · exact fun h2 => hd b (by simp) b h2 rfl
    · exact fun h2 => hρ x h1 (by simp [h2])
  · intro x hx
    rcases List.mem_cons.1 hx with rfl | h1
    · exact ho
    · exact hro x h1

theorem St.ro_tail {x : Nat × Obj} (h : St we (x :: ρ) σ w) : St we ρ σ w := by
  obtain ⟨hb, ⟨X, hs, hn, hr, hρ⟩, hro⟩ := h
  exact ⟨hb, ⟨X, hs, hn, hr, fun y hy => hρ y (by simp [hy])⟩, fun y hy => hro y (by simp [hy])⟩

theorem St.star : St we ρ (HP.star A B :: σ) w ↔ St we ρ (A :: B :: σ) w := by
  constructor
  · rintro ⟨hb, ⟨X, ⟨X1, X2, rfl, ⟨Y1, Y2, rfl, ha, hb'⟩, hf⟩, hn, hr, hρ⟩, hro⟩
    exact ⟨hb, ⟨Y1 ++ Y2 ++ X2, ⟨Y1, Y2 ++ X2, by simp, ha, Y2, X2, rfl, hb', hf⟩, hn, hr, hρ⟩, hro⟩
  · rintro ⟨hb, ⟨X, ⟨Y1, Z, rfl, ha, Y2, X2, rfl, hb', hf⟩, hn, hr, hρ⟩, hro⟩
    exact ⟨hb, ⟨Y1 ++ (Y2 ++ X2), ⟨Y1 ++ Y2, X2, by simp, ⟨Y1, Y2, rfl, ha, hb'⟩, hf⟩, hn, hr, hρ⟩, hro⟩

theorem St.ex {α : Type} {f : α → HP} (h : St we ρ (HP.ex f :: σ) w) : ∃ a, St we ρ (f a :: σ) w := by
  obtain ⟨hb, ⟨X, ⟨X1, X2, rfl, ⟨a, ha⟩, hf⟩, hn, hr, hρ⟩, hro⟩ := h
  exact ⟨a, hb, ⟨X1 ++ X2, ⟨X1, X2, rfl, ha, hf⟩, hn, hr, hρ⟩, hro⟩

theorem St.ex_mk {α : Type} {f : α → HP} (a : α) (h : St we ρ (f a :: σ) w) : St we ρ (HP.ex f :: σ) w := by
  obtain ⟨hb, ⟨X, ⟨X1, X2, rfl, ha, hf⟩, hn, hr, hρ⟩, hro⟩ := h
  exact ⟨hb, ⟨X1 ++ X2, ⟨X1, X2, rfl, ⟨a, ha⟩, hf⟩, hn, hr, hρ⟩, hro⟩

theorem St.pure {p : Prop} (h : St we ρ (HP.pure p A :: σ) w) : p ∧ St we ρ (A :: σ) w := by
  obtain ⟨hb, ⟨X, ⟨X1, X2, rfl, ⟨hp, ha⟩, hf⟩, hn, hr, hρ⟩, hro⟩ := h
  exact ⟨hp, hb, ⟨X1 ++ X2, ⟨X1, X2, rfl, ha, hf⟩, hn, hr, hρ⟩, hro⟩

theorem St.pure_mk {p : Prop} (hp : p) (h : St we ρ (A :: σ) w) : St we ρ (HP.pure p A :: σ) w := by
  obtain ⟨hb, ⟨X, ⟨X1, X2, rfl, ha, hf⟩, hn, hr, hρ⟩, hro⟩ := h
  exact ⟨hb, ⟨X1 ++ X2, ⟨X1, X2, rfl, ⟨hp, ha⟩, hf⟩, hn, hr, hρ⟩, hro⟩
end
attribute [irreducible] Blk HP.star HP.ex HP.pure
end Go.Proofs.Ythejfodjielahaa
