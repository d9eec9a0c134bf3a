/-
  What is heard, told; a copy; a range over what is known.
-/
import Derived.Test.YtcigkkedffggiaaKnow8
namespace Go.Proofs.Ytcigkkedffggiaa
set_option maxRecDepth 8000
set_option linter.unusedSimpArgs false
set_option linter.unusedVariables false
open Go Go.RowKit

/-- What stands while a range over what is known goes on: the keys that were handed out. -/
structure RangeI (kv : List (Int × Bool)) (st : List Nat) (seen : Array Nat) (ys : List Int) : Prop where
  src : ∀ y ∈ ys, y ∈ kv.map (·.1)
  done : ∀ (i : Nat) (h1 : i < kv.length) (h2 : i < st.length), st[i] ∈ seen.toList → kv[i].1 ∈ ys
  back : ∀ (i : Nat) (h1 : i < kv.length) (h2 : i < st.length), kv[i].1 ∈ ys → st[i] ∈ seen.toList
  nodup : ys.Nodup
  len : ys.length + unseen st seen ≤ st.length
theorem rangei_start {kv : List (Int × Bool)} {st : List Nat} : RangeI kv st #[] [] :=
  ⟨by simp, by simp, by simp, List.nodup_nil, by
    have : unseen st #[] ≤ st.length := List.countP_le_length
    simp only [List.length_nil]; omega⟩
theorem rangei_next {K : Int → Bool} {kv : List (Int × Bool)} {st : List Nat} {seen : Array Nat} {ys : List Int} (hK : Knows K kv st) (hn : st.Nodup) (h : RangeI kv st seen ys) {en : MapEntry} (he : en ∈ (ents kfB vfB kv st).toArray.toList) (hs : en.born ∉ seen.toList) :
    ∃ z b s, en = ⟨.int .i64 z, .bool b, s⟩ ∧ K z = true ∧ RangeI kv st (seen.push s) (ys ++ [z]) ∧ unseen st (seen.push s) < unseen st seen := by
  obtain ⟨i, h1, h2, rfl⟩ := ents_mem hK.len (by simpa using he)
  replace hs : st[i] ∉ seen.toList := hs
  have hd := unseen_push (List.getElem_mem h2) hs
  refine ⟨_, _, _, rfl, (hK.all _).1 (List.mem_map.2 ⟨_, List.getElem_mem h1, rfl⟩), ⟨fun y hy => ?_, fun j j1 j2 hj => ?_, fun j j1 j2 hj => ?_, ?_, ?_⟩, hd⟩
  · rcases List.mem_append.1 hy with q | q
    · exact h.src y q
    · rw [List.mem_singleton.1 q]; exact List.mem_map.2 ⟨_, List.getElem_mem h1, rfl⟩
  · rw [Array.toList_push, List.mem_append, List.mem_singleton] at hj
    rcases hj with q | q
    · exact List.mem_append.2 (.inl (h.done j j1 j2 q))
    · obtain rfl : j = i := (List.getElem_inj hn).1 q
      simp
  · rw [Array.toList_push, List.mem_append, List.mem_singleton]
    rcases List.mem_append.1 hj with q | q
    · exact .inl (h.back j j1 j2 q)
    · have q2 := List.mem_singleton.1 q
      have hk : (kv.map (·.1)).Nodup := hK.keyed
      have : (kv.map (·.1))[j]'(by simpa using j1) = (kv.map (·.1))[i]'(by simpa using h1) := by simpa using q2
      obtain rfl : j = i := (List.getElem_inj hk).1 this
      exact .inr rfl
  · refine List.nodup_append.2 ⟨h.nodup, by simp, fun a ha b hb e => ?_⟩
    subst e
    rw [List.mem_singleton.1 hb] at ha
    exact hs (h.back i h1 h2 ha)
  · have := h.len
    rw [List.length_append, List.length_singleton]
    omega
theorem rangei_end {K : Int → Bool} {kv : List (Int × Bool)} {st : List Nat} {seen : Array Nat} {ys : List Int} (hK : Knows K kv st) (h : RangeI kv st seen ys) (hall : ∀ x ∈ (ents kfB vfB kv st).toArray.toList, x.born ∈ seen.toList) (y : Int) : y ∈ ys ↔ K y = true := by
  rw [← hK.all y]
  refine ⟨h.src y, fun hy => ?_⟩
  obtain ⟨q, hq, rfl⟩ := List.mem_map.1 hy
  obtain ⟨i, hi, rfl⟩ := List.mem_iff_getElem.1 hq
  have h2 : i < st.length := by rw [hK.len]; exact hi
  refine h.done i hi h2 ?_
  have := ents_at (kf := kfB) (vf := vfB) hi h2
  exact hall _ (by simpa using List.mem_of_getElem? this)

theorem stamps_put {st st2 : List Nat} {c c2 : Nat} (h1 : st.Nodup) (h2 : ∀ s ∈ st, s < c) (h : (st2 = st ∧ c2 = c) ∨ (st2 = st ++ [c] ∧ c2 = c + 1)) : st2.Nodup ∧ ∀ s ∈ st2, s < c2 := by
  rcases h with ⟨rfl, rfl⟩ | ⟨rfl, rfl⟩
  · exact ⟨h1, h2⟩
  · refine ⟨List.nodup_append.2 ⟨h1, by simp, fun a ha b hb => ?_⟩, fun s hs => ?_⟩
    · simp at hb; subst hb; have := h2 a ha; omega
    · rcases List.mem_append.1 hs with q | q
      · have := h2 s q; omega
      · simp at q; omega

section
variable {we w : World} {ρ : List (Nat × Obj)} {σ F : List HP} {L : List Nd} {kv kvK : List (Int × Bool)} {st stK : List Nat} {c cK : Nat} {K : Int → Bool} {kb km p p2 lim : Nat} {hv : Value}

theorem intl_one {l : List Int} : ∀ u ∈ l.flatMap intL, one u = true := by rw [ints_flat]; exact ints_one

end
end Go.Proofs.Ytcigkkedffggiaa
