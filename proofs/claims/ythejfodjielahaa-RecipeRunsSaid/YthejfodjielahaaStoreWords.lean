/-
  The plain words of the layer of stores: keys and values in order; a map's entries. No program.
-/
import Derived.Test.YthejfodjielahaaMaps
namespace Go.Proofs.Ythejfodjielahaa
set_option maxRecDepth 8000
set_option linter.unusedSimpArgs false
set_option linter.unusedVariables false
open Go Go.RowKit

/-- A call: its kind, its key, its value. -/
structure SOp where
  kind : Int
  k : Int
  v : ByteArray
def sopL (o : SOp) : List Value := [.int .i64 o.kind, .int .i64 o.k, .string o.v]

section
variable {α β : Type}
def kfindAt [DecidableEq α] : List (α × β) → α → Nat → Option (Nat × β)
  | [], _, _ => none
  | (a, b) :: l, k, i => if k = a then some (i, b) else kfindAt l k (i + 1)
def kput [DecidableEq α] (lim : Int) (kv : List (α × β)) (k : α) (v : β) : List (α × β) × Int :=
  match kfindAt kv k 0 with
  | some (i, _) => (kv.set i (k, v), 0)
  | none => if lim ≤ kv.length then (kv, 3) else (kv ++ [(k, v)], 0)
def kdrop [DecidableEq α] (kv : List (α × β)) (k : α) : List (α × β) × Int :=
  match kfindAt kv k 0 with
  | some (i, _) => (kv.eraseIdx i, 0)
  | none => (kv, 4)
def kadd [DecidableEq α] (lim : Int) (kv : List (α × β)) (k : α) (v : β) : List (α × β) × Int :=
  match kfindAt kv k 0 with
  | some _ => (kv, 4)
  | none => kput lim kv k v

theorem kfindAt_some [DecidableEq α] {k : α} {b : β} : ∀ {kv : List (α × β)} {i j : Nat}, kfindAt kv k i = some (j, b) → i ≤ j ∧ kv[j - i]? = some (k, b)
  | [], _, _, h => by simp [kfindAt] at h
  | (a, c) :: l, i, j, h => by
    simp only [kfindAt] at h
    split at h
    · rename_i e; simp at h; obtain ⟨rfl, rfl⟩ := h; simp [e]
    · have := kfindAt_some h
      refine ⟨by omega, ?_⟩
      rw [show j - i = (j - (i + 1)) + 1 by omega, List.getElem?_cons_succ]
      exact this.2
theorem kfindAt_none [DecidableEq α] {k : α} : ∀ {kv : List (α × β)} {i : Nat}, kfindAt kv k i = none ↔ k ∉ kv.map (·.1)
  | [], _ => by simp [kfindAt]
  | (a, c) :: l, i => by
    simp only [kfindAt, List.map_cons, List.mem_cons]
    split
    · rename_i e; simp [e]
    · rename_i e; rw [kfindAt_none (kv := l)]; simp [e]
theorem kfind_some [DecidableEq α] {kv : List (α × β)} {k : α} {j : Nat} {b : β} (h : kfindAt kv k 0 = some (j, b)) : j < kv.length ∧ kv[j]? = some (k, b) := by
  have := (kfindAt_some h).2
  simp only [Nat.sub_zero] at this
  exact ⟨(List.getElem?_eq_some_iff.1 this).1, this⟩
/-- No key twice. -/
def Keyed1 (kv : List (α × β)) : Prop := (kv.map (·.1)).Nodup
theorem kfind_of [DecidableEq α] {kv : List (α × β)} (hn : Keyed1 kv) {j : Nat} {k : α} {b : β} (h : kv[j]? = some (k, b)) : kfindAt kv k 0 = some (j, b) := by
  cases hf : kfindAt kv k 0 with
  | none =>
    have := kfindAt_none.1 hf
    exact absurd (List.mem_map.2 ⟨(k, b), List.mem_of_getElem? h, rfl⟩) this
  | some r =>
    obtain ⟨i, c⟩ := r
    obtain ⟨h1, h2⟩ := kfind_some hf
    have e1 : (kv.map (·.1))[i]? = some k := by simp [h2]
    have e2 : (kv.map (·.1))[j]? = some k := by simp [h]
    have hi : i < (kv.map (·.1)).length := (List.getElem?_eq_some_iff.1 e1).1
    have : i = j := (List.getElem?_inj hi hn).1 (e1.trans e2.symm)
    subst this
    rw [h2] at h
    simp at h
    rw [h]
theorem keys_set {kv : List (α × β)} {k : α} {v b : β} {i : Nat} (h : kv[i]? = some (k, b)) : (kv.set i (k, v)).map (·.1) = kv.map (·.1) := by
  apply List.ext_getElem?
  intro j
  simp only [List.getElem?_map, List.getElem?_set]
  by_cases e : i = j
  · subst e
    obtain ⟨h1, h2⟩ := List.getElem?_eq_some_iff.1 h
    simp [h1, h2]
  · simp [e]
theorem kput_keyed [DecidableEq α] {kv : List (α × β)} (hn : Keyed1 kv) (lim : Int) (k : α) (v : β) : Keyed1 (kput lim kv k v).1 := by
  unfold kput
  cases hf : kfindAt kv k 0 with
  | some r =>
    obtain ⟨i, b⟩ := r
    unfold Keyed1
    simp only
    rw [keys_set (kfind_some hf).2]
    exact hn
  | none =>
    simp only
    split
    · exact hn
    · have := kfindAt_none.1 hf
      unfold Keyed1 at *
      rw [List.map_append]
      refine List.nodup_append.2 ⟨hn, by simp, ?_⟩
      intro a ha b hb e
      simp at hb
      subst hb; subst e
      exact this ha
theorem kdrop_keyed [DecidableEq α] {kv : List (α × β)} (hn : Keyed1 kv) (k : α) : Keyed1 (kdrop kv k).1 := by
  unfold kdrop
  cases hf : kfindAt kv k 0 with
  | none => exact hn
  | some r =>
    unfold Keyed1 at *
    simp only
    exact hn.sublist ((List.eraseIdx_sublist kv r.1).map _)
theorem kput_len [DecidableEq α] (lim : Int) (kv : List (α × β)) (k : α) (v : β) : (kput lim kv k v).1.length ≤ kv.length + 1 := by
  unfold kput
  cases kfindAt kv k 0 with
  | some r => simp
  | none => simp only; split <;> simp
theorem kdrop_len [DecidableEq α] (kv : List (α × β)) (k : α) : (kdrop kv k).1.length ≤ kv.length := by
  unfold kdrop
  cases kfindAt kv k 0 with
  | some r => exact (List.eraseIdx_sublist kv r.1).length_le
  | none => exact Nat.le_refl _

/-! ### A map's entries -/
variable (kf : α → Value) (vf : β → Value)
def ents : List (α × β) → List Nat → List MapEntry
  | (a, b) :: l, s :: st => ⟨kf a, vf b, s⟩ :: ents l st
  | _, _ => []
variable {kf vf} {kof : Value → α}
theorem ents_keys (hk : ∀ a, kof (kf a) = a) : ∀ {kv : List (α × β)} {st : List Nat}, ∀ e ∈ ents kf vf kv st, e.key = kf (kof e.key)
  | [], _ => by simp [ents]
  | (a, b) :: l, [] => by simp [ents]
  | (a, b) :: l, s :: st => by
    intro e he
    simp only [ents, List.mem_cons] at he
    rcases he with rfl | he
    · simp [hk]
    · exact ents_keys hk e he
theorem ents_find [DecidableEq α] (hk : ∀ a, kof (kf a) = a) {k : α} : ∀ {kv : List (α × β)} {st : List Nat} (i : Nat), st.length = kv.length → mfind (fun u => decide (k = kof u)) (ents kf vf kv st) i = (kfindAt kv k i).map fun r => (r.1, vf r.2)
  | [], _, _, _ => by simp [ents, mfind, kfindAt]
  | (a, b) :: l, [], _, h => by simp at h
  | (a, b) :: l, s :: st, i, h => by
    simp only [ents, mfind, kfindAt, hk]
    by_cases e : k = a
    · simp [e]
    · simp only [decide_eq_false e, e, if_false, Bool.false_eq_true]
      exact ents_find hk (i + 1) (by simpa using h)
theorem ents_set {k : α} {v : β} : ∀ {kv : List (α × β)} {st : List Nat} {i : Nat}, st.length = kv.length → i < kv.length → (ents kf vf kv st).modify i (fun e => { e with key := kf k, val := vf v }) = ents kf vf (kv.set i (k, v)) st
  | [], _, _, _, h => by simp at h
  | (a, b) :: l, [], _, h, _ => by simp at h
  | (a, b) :: l, s :: st, 0, h, _ => by simp [ents]
  | (a, b) :: l, s :: st, i + 1, h, hi => by
    simp only [ents, List.modify_succ_cons, List.set_cons_succ]
    rw [ents_set (by simpa using h) (by simpa using hi)]
theorem ents_snoc {k : α} {v : β} {c : Nat} : ∀ {kv : List (α × β)} {st : List Nat}, st.length = kv.length → ents kf vf kv st ++ [⟨kf k, vf v, c⟩] = ents kf vf (kv ++ [(k, v)]) (st ++ [c])
  | [], [], _ => by simp [ents]
  | [], s :: st, h => by simp at h
  | (a, b) :: l, [], h => by simp at h
  | (a, b) :: l, s :: st, h => by
    simp only [ents, List.cons_append]
    rw [ents_snoc (by simpa using h)]
theorem ents_erase : ∀ {kv : List (α × β)} {st : List Nat} (i : Nat), st.length = kv.length → (ents kf vf kv st).eraseIdx i = ents kf vf (kv.eraseIdx i) (st.eraseIdx i)
  | [], [], i, _ => by simp [ents]
  | [], s :: st, _, h => by simp at h
  | (a, b) :: l, [], _, h => by simp at h
  | (a, b) :: l, s :: st, 0, h => by simp [ents]
  | (a, b) :: l, s :: st, i + 1, h => by
    simp only [ents, List.eraseIdx_cons_succ]
    rw [ents_erase i (by simpa using h)]
theorem ents_length : ∀ {kv : List (α × β)} {st : List Nat}, st.length = kv.length → (ents kf vf kv st).length = kv.length
  | [], [], _ => rfl
  | [], s :: st, h => by simp at h
  | (a, b) :: l, [], h => by simp at h
  | (a, b) :: l, s :: st, h => by simp only [ents, List.length_cons]; rw [ents_length (by simpa using h)]
theorem ents_put_old [DecidableEq α] (hk : ∀ a, kof (kf a) = a) {k : α} {v b : β} {i clock : Nat} {kv : List (α × β)} {st : List Nat} (h : st.length = kv.length) (hf : kfindAt kv k 0 = some (i, b)) :
    mput (fun u => decide (k = kof u)) (kf k) (vf v) (ents kf vf kv st) clock = (ents kf vf (kv.set i (k, v)) st, clock) := by
  simp only [mput, ents_find hk 0 h, hf, Option.map_some]
  rw [ents_set h (kfind_some hf).1]
theorem ents_put_new [DecidableEq α] (hk : ∀ a, kof (kf a) = a) {k : α} {v : β} {clock : Nat} {kv : List (α × β)} {st : List Nat} (h : st.length = kv.length) (hf : kfindAt kv k 0 = none) :
    mput (fun u => decide (k = kof u)) (kf k) (vf v) (ents kf vf kv st) clock = (ents kf vf (kv ++ [(k, v)]) (st ++ [clock]), clock + 1) := by
  simp only [mput, ents_find hk 0 h, hf, Option.map_none]
  rw [ents_snoc h]
end

/-- What a key is. -/
def intK : Value → Int
  | .int _ n => n
  | _ => 0
def strK : Value → ByteArray
  | .string s => s
  | _ => ByteArray.empty
theorem intK_of (a : Int) : intK (Value.int .i64 a) = a := rfl
theorem strK_of (a : ByteArray) : strK (Value.string a) = a := rfl
theorem bits_int {k : Int} {es : List MapEntry} (h : ∀ e ∈ es, e.key = .int .i64 (intK e.key)) : ∀ e ∈ es, decide (k = intK e.key) = true → Instr.sameBits 10000 e.key (.int .i64 k) = true := by
  intro e he h1
  rw [h e he]
  have h1 := of_decide_eq_true h1
  simp [Instr.sameBits, h1]
theorem bits_str {k : ByteArray} {es : List MapEntry} (h : ∀ e ∈ es, e.key = .string (strK e.key)) : ∀ e ∈ es, decide (k = strK e.key) = true → Instr.sameBits 10000 e.key (.string k) = true := by
  intro e he h1
  have h1 := of_decide_eq_true h1
  rw [h e he, ← h1]
  simp only [Instr.sameBits]
  rw [beq_toListBytes]
  simp
end Go.Proofs.Ythejfodjielahaa
