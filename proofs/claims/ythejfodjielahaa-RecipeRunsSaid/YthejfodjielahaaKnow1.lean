/-
  What is known: the maps of refs, as lists; what a look-up finds, what a put makes. No program.
-/
import Derived.Test.YthejfodjielahaaStoreWords
import Derived.Test.YthejfodjielahaaKnowPure
namespace Go.Proofs.Ythejfodjielahaa
set_option maxRecDepth 8000
set_option linter.unusedSimpArgs false
set_option linter.unusedVariables false
open Go Go.RowKit

abbrev kfB (x : Int) : Value := .int .i64 x
abbrev vfB (b : Bool) : Value := .bool b
abbrev BMap (m : Nat) (kv : List (Int × Bool)) (st : List Nat) (clock : Nat) : HP := Blk m (.map (ents kfB vfB kv st).toArray clock)

/-- A map of refs that tells no other thing than f. -/
structure Tells (f : Int → Bool) (kv : List (Int × Bool)) (st : List Nat) : Prop where
  len : st.length = kv.length
  tells : ∀ q ∈ kv, q.2 = f q.1
/-- A map of what is known. -/
structure Knows (K : Int → Bool) (kv : List (Int × Bool)) (st : List Nat) : Prop where
  keyed : Keyed1 kv
  len : st.length = kv.length
  all : ∀ x, x ∈ kv.map (·.1) ↔ K x = true
  yes : ∀ q ∈ kv, q.2 = true

theorem kfind_mem {kv : List (Int × Bool)} {x : Int} {i : Nat} {b : Bool} (h : kfindAt kv x 0 = some (i, b)) : (x, b) ∈ kv := List.mem_of_getElem? (kfind_some h).2

theorem knows_find {K : Int → Bool} {kv : List (Int × Bool)} {st : List Nat} (h : Knows K kv st) (x : Int) : (found (Value.bool false) ((kfindAt kv x 0).map fun r => (r.1, vfB r.2))).1 = .bool (K x) := by
  cases hf : kfindAt kv x 0 with
  | none =>
    have : K x = false := by
      cases hk : K x with
      | false => rfl
      | true => exact absurd ((h.all x).2 hk) (kfindAt_none.1 hf)
    rw [this]; rfl
  | some r =>
    obtain ⟨i, b⟩ := r
    have hm := kfind_mem hf
    obtain rfl : b = true := h.yes _ hm
    have : K x = true := (h.all x).1 (List.mem_map.2 ⟨_, hm, rfl⟩)
    rw [this]; rfl

theorem tells_find {f : Int → Bool} {kv : List (Int × Bool)} {st : List Nat} (h : Tells f kv st) (x : Int) : ∃ b d, found (Value.bool false) ((kfindAt kv x 0).map fun r => (r.1, vfB r.2)) = (.bool b, d) ∧ (d = true → b = f x) := by
  cases hf : kfindAt kv x 0 with
  | none => exact ⟨false, false, rfl, fun h => by cases h⟩
  | some r => exact ⟨r.2, true, rfl, fun _ => h.tells _ (kfind_mem hf)⟩

theorem tells_put {f : Int → Bool} {kv : List (Int × Bool)} {st : List Nat} (h : Tells f kv st) (x : Int) (clock : Nat) :
    ∃ kv2 st2 c2, mput (fun u => decide (x = intK u)) (kfB x) (vfB (f x)) (ents kfB vfB kv st) clock = (ents kfB vfB kv2 st2, c2) ∧ Tells f kv2 st2 := by
  cases hf : kfindAt kv x 0 with
  | some r =>
    obtain ⟨i, b⟩ := r
    refine ⟨_, _, _, ents_put_old (kf := kfB) (vf := vfB) (kof := intK) intK_of h.len hf, by simp [h.len], fun q hq => ?_⟩
    rcases List.mem_or_eq_of_mem_set hq with hq | rfl
    · exact h.tells q hq
    · rfl
  | none =>
    refine ⟨_, _, _, ents_put_new (kf := kfB) (vf := vfB) (kof := intK) intK_of h.len hf, by simp [h.len], fun q hq => ?_⟩
    rcases List.mem_append.1 hq with hq | hq
    · exact h.tells q hq
    · obtain rfl := List.mem_singleton.1 hq
      rfl

theorem knows_put {K : Int → Bool} {kv : List (Int × Bool)} {st : List Nat} (h : Knows K kv st) (x : Int) (clock : Nat) :
    ∃ kv2 st2 c2, mput (fun u => decide (x = intK u)) (kfB x) (vfB true) (ents kfB vfB kv st) clock = (ents kfB vfB kv2 st2, c2) ∧ Knows (ins K x) kv2 st2 ∧ ((st2 = st ∧ c2 = clock) ∨ (st2 = st ++ [clock] ∧ c2 = clock + 1)) := by
  cases hf : kfindAt kv x 0 with
  | some r =>
    obtain ⟨i, b⟩ := r
    have hm := kfind_mem hf
    obtain rfl : b = true := h.yes _ hm
    have hset : kv.set i (x, true) = kv := by
      obtain ⟨hi, hx⟩ := kfind_some hf
      rw [List.getElem?_eq_getElem hi] at hx
      simp only [Option.some.injEq] at hx
      rw [← hx, List.set_getElem_self]
    refine ⟨_, _, _, ents_put_old (kf := kfB) (vf := vfB) (kof := intK) intK_of h.len hf, ?_, .inl ⟨rfl, rfl⟩⟩
    rw [hset]
    refine ⟨h.keyed, h.len, fun y => ?_, h.yes⟩
    rw [h.all y, ins_iff]
    constructor
    · exact .inl
    · rintro (h1 | rfl)
      · exact h1
      · exact (h.all y).1 (List.mem_map.2 ⟨_, hm, rfl⟩)
  | none =>
    refine ⟨_, _, _, ents_put_new (kf := kfB) (vf := vfB) (kof := intK) intK_of h.len hf, ⟨?_, by simp [h.len], fun y => ?_, fun q hq => ?_⟩, .inr ⟨rfl, rfl⟩⟩
    · have := kput_keyed h.keyed (kv.length + 1) x true
      simp only [kput, hf] at this
      rwa [if_neg (by omega)] at this
    · rw [List.map_append, List.mem_append, h.all y, ins_iff]
      simp
    · rcases List.mem_append.1 hq with hq | hq
      · exact h.yes q hq
      · obtain rfl := List.mem_singleton.1 hq
        rfl
theorem knows_none : Knows (fun _ => false) [] [] := ⟨List.nodup_nil, rfl, by simp, by simp⟩
theorem tells_none (f : Int → Bool) : Tells f [] [] := ⟨rfl, by simp⟩
end Go.Proofs.Ythejfodjielahaa
