/-
  What is heard, told; a copy; a range over what is known.
-/
import Derived.Test.YthejfodjielahaaKnow8
namespace Go.Proofs.Ythejfodjielahaa
set_option maxRecDepth 8000
set_option linter.unusedSimpArgs false
set_option linter.unusedVariables false
open Go Go.RowKit

/-- What stands while a range over what is known goes on: the keys that were handed out. -/
structure RangeI (kv : List (Int × Bool)) (st : List Nat) (seen : Array Nat) (ys : List Int) : Prop where
  src : ∀ y ∈ ys, y ∈ kv.map (·.1)
  done : ∀ (i : Nat) (h1 : i < kv.length) (h2 : i < st.length), st[i] ∈ seen.toList → kv[i].1 ∈ ys
  back : ∀ (i : Nat) (h1 : i < kv.length) (h2 : i < st.length), kv[i].1 ∈ ys → st[i] ∈ seen.toList
  nodup : ys.Nodup
  len : ys.length + unseen st seen ≤ st.length
theorem rangei_start {kv : List (Int × Bool)} {st : List Nat} : RangeI kv st #[] [] :=
  ⟨by simp, by simp, by simp, List.nodup_nil, by
    have : unseen st #[] ≤ st.length := List.countP_le_length
    simp only [List.length_nil]; omega⟩
theorem rangei_next {K : Int → Bool} {kv : List (Int × Bool)} {st : List Nat} {seen : Array Nat} {ys : List Int} (hK : Knows K kv st) (hn : st.Nodup) (h : RangeI kv st seen ys) {en : MapEntry} (he : en ∈ (ents kfB vfB kv st).toArray.toList) (hs : en.born ∉ seen.toList) :
    ∃ z b s, en = ⟨.int .i64 z, .bool b, s⟩ ∧ K z = true ∧ RangeI kv st (seen.push s) (ys ++ [z]) ∧ unseen st (seen.push s) < unseen st seen := by
  obtain ⟨i, h1, h2, rfl⟩ := ents_mem hK.len (by simpa using he)
  replace hs : st[i] ∉ seen.toList := hs
  have hd := unseen_push (List.getElem_mem h2) hs
  refine ⟨_, _, _, rfl, (hK.all _).1 (List.mem_map.2 ⟨_, List.getElem_mem h1, rfl⟩), ⟨fun y hy => ?_, fun j j1 j2 hj => ?_, fun j j1 j2 hj => ?_, ?_, ?_⟩, hd⟩
  · rcases List.mem_append.1 hy with q | q
    · exact h.src y q
    · rw [List.mem_singleton.1 q]; exact List.mem_map.2 ⟨_, List.getElem_mem h1, rfl⟩
  · rw [Array.toList_push, List.mem_append, List.mem_singleton] at hj
    rcases hj with q | q
    · exact List.mem_append.2 (.inl (h.done j j1 j2 q))
    · obtain rfl : j = i := (List.getElem_inj hn).1 q
      simp
  · rw [Array.toList_push, List.mem_append, List.mem_singleton]
    rcases List.mem_append.1 hj with q | q
    · exact .inl (h.back j j1 j2 q)
    · have q2 := List.mem_singleton.1 q
      have hk : (kv.map (·.1)).Nodup := hK.keyed
      have : (kv.map (·.1))[j]'(by simpa using j1) = (kv.map (·.1))[i]'(by simpa using h1) := by simpa using q2
      obtain rfl : j = i := (List.getElem_inj hk).1 this
      exact .inr rfl
  · refine List.nodup_append.2 ⟨h.nodup, by simp, fun a ha b hb e => ?_⟩
    subst e
    rw [List.mem_singleton.1 hb] at ha
    exact hs (h.back i h1 h2 ha)
  · have := h.len
    rw [List.length_append, List.length_singleton]
    omega
theorem rangei_end {K : Int → Bool} {kv : List (Int × Bool)} {st : List Nat} {seen : Array Nat} {ys : List Int} (hK : Knows K kv st) (h : RangeI kv st seen ys) (hall : ∀ x ∈ (ents kfB vfB kv st).toArray.toList, x.born ∈ seen.toList) (y : Int) : y ∈ ys ↔ K y = true := by
  rw [← hK.all y]
  refine ⟨h.src y, fun hy => ?_⟩
  obtain ⟨q, hq, rfl⟩ := List.mem_map.1 hy
  obtain ⟨i, hi, rfl⟩ := List.mem_iff_getElem.1 hq
  have h2 : i < st.length := by rw [hK.len]; exact hi
  refine h.done i hi h2 ?_
  have := ents_at (kf := kfB) (vf := vfB) hi h2
  exact hall _ (by simpa using List.mem_of_getElem? this)

theorem stamps_put {st st2 : List Nat} {c c2 : Nat} (h1 : st.Nodup) (h2 : ∀ s ∈ st, s < c) (h : (st2 = st ∧ c2 = c) ∨ (st2 = st ++ [c] ∧ c2 = c + 1)) : st2.Nodup ∧ ∀ s ∈ st2, s < c2 := by
  rcases h with ⟨rfl, rfl⟩ | ⟨rfl, rfl⟩
  · exact ⟨h1, h2⟩
  · refine ⟨List.nodup_append.2 ⟨h1, by simp, fun a ha b hb => ?_⟩, fun s hs => ?_⟩
    · simp at hb; subst hb; have := h2 a ha; omega
    · rcases List.mem_append.1 hs with q | q
      · have := h2 s q; omega
      · simp at q; omega

section
variable {we w : World} {ρ : List (Nat × Obj)} {σ F : List HP} {L : List Nd} {kv kvK : List (Int × Bool)} {st stK : List Nat} {c cK : Nat} {K : Int → Bool} {kb km p p2 lim : Nat} {hv : Value}

theorem cloneInts {v : Value} {n : Nat} {xs : List Value} (hn : n ≤ 200000) (h1 : ∀ u ∈ xs, one u = true) (ht : Take (Vec 3 1 v n xs) σ F) (hS : St we ρ σ w) :
    Cl Try.prog 26 [v] w fun u w' => St we ρ (Vec 3 1 u n xs :: σ) w' := by
  have hS1 := hS.take ht
  obtain ⟨hl, ⟨rfl, rfl, rfl, -⟩ | ⟨g, cap, spare, rfl, k1, k2, k3, hS2⟩⟩ := vec_open hS1
  · clear hS1
    refine Run.calls1 (n := 8) Try.func26 rfl rfl rfl ?_
    repeat' first
      | refine Run.seq ?_
      | refine Run.region ?_
      | (refine RO.split ?_ ?_ <;> intro hc <;> try (first | (exfalso; omega) | exact absurd rfl hc | exact Bool.noConfusion hc))
      | refine RO.nil ?_
      | refine RO.still (by exact Still.any) hS rfl ?_
      | (apply RO.op; apply OP.box hS; rfl; rfl; rfl; clear hS; intro b w1 hS)
      | (apply RO.op; apply OP.alloc hS; rfl; rfl; rfl; clear hS; intro b w1 hS)
      | (apply RO.op; apply OP.store hS; rfl; rfl; rfl; rfl; rfl; (focus ((repeat (first | apply Has.head | apply Take.head | apply Put.head | apply Has.tail | apply Take.tail | apply Put.tail)); done)); rfl; rfl; clear hS; intro w1 hS)
      | (apply RO.op; apply OP.buildSlice hS; rfl; rfl; (exact eqAuto); rfl; rfl; rfl; rfl; rfl; clear hS; intro b w1 hS)
      | (apply RO.op; apply OP.makeMap hS; rfl; clear hS; intro b w1 hS)
      | refine RO.yes rfl rfl ?_
      | refine RO.no rfl rfl rfl rfl ?_
      | refine RO.noUndef rfl rfl rfl ?_
      | refine RO.noNone rfl rfl rfl ?_
      | refine Run.cond_true rfl ?_
      | refine Run.cond_false rfl ?_
      | refine Run.skip ?_
      | refine Run.block ?_
      | refine Run.inBlock ?_
      | refine Run.exit rfl ?_
    refine Run.ret Try.func26 rfl (.tmp rfl .nil) ?_
    exact vec_nil hS
  · clear hS1
    refine Run.calls1 (n := 8) Try.func26 rfl rfl rfl ?_
    clear hS
    have hS := hS2
    clear hS2
    repeat' first
      | (apply RO.op; apply OP.append (size := 1) (bytes := 8) (k := n) (news := xs) (vec_shut (size := 1) (xs := []) (l := []) (cap := 0) hS (Nat.le_refl _) (Nat.zero_le _) rfl rfl); rfl; rfl; rfl; rfl; rfl; rfl; rfl; rfl; exact (by omega); exact .head; exact (.own .head); (exact (by rw [List.drop_zero, ← hl]; exact List.take_left)); (exact hl); exact h1; (exact (by unfold maxLen; omega)); (exact (by omega)); rfl
         clear hS; intro v' w1 hS)
      | refine Run.seq ?_
      | refine Run.region ?_
      | (refine RO.split ?_ ?_ <;> intro hc <;> try (first | (exfalso; omega) | exact absurd rfl hc | exact Bool.noConfusion hc))
      | refine RO.nil ?_
      | refine RO.still (by exact Still.any) hS rfl ?_
      | (apply RO.op; apply OP.box hS; rfl; rfl; rfl; clear hS; intro b w1 hS)
      | (apply RO.op; apply OP.alloc hS; rfl; rfl; rfl; clear hS; intro b w1 hS)
      | (apply RO.op; apply OP.store hS; rfl; rfl; rfl; rfl; rfl; (focus ((repeat (first | apply Has.head | apply Take.head | apply Put.head | apply Has.tail | apply Take.tail | apply Put.tail)); done)); rfl; rfl; clear hS; intro w1 hS)
      | (apply RO.op; apply OP.buildSlice hS; rfl; rfl; (exact eqAuto); rfl; rfl; rfl; rfl; rfl; clear hS; intro b w1 hS)
      | (apply RO.op; apply OP.makeMap hS; rfl; clear hS; intro b w1 hS)
      | refine RO.yes rfl rfl ?_
      | refine RO.no rfl rfl rfl rfl ?_
      | refine RO.noUndef rfl rfl rfl ?_
      | refine RO.noNone rfl rfl rfl ?_
      | refine Run.cond_true rfl ?_
      | refine Run.cond_false rfl ?_
      | refine Run.skip ?_
      | refine Run.block ?_
      | refine Run.inBlock ?_
      | refine Run.exit rfl ?_
    refine Run.ret Try.func26 rfl (.tmp rfl .nil) ?_
    rw [Nat.zero_add, List.nil_append] at hS
    have hS3 := (vec_shut (m := n) (xs := xs) (hS.take (.tail .head)) k1 k2 (by rw [List.length_append, hl, k3, ← Nat.add_mul, Nat.add_sub_cancel' k1]) (by rw [← hl]; exact List.take_left))
    show St we ρ (Vec 3 1 v' n xs :: σ) w1
    exact hS3.untake (.tail ht)
theorem intl_one {l : List Int} : ∀ u ∈ l.flatMap intL, one u = true := by rw [ints_flat]; exact ints_one

theorem heard_calls {heard : List Int} (hl : heard.length ≤ 200000) (hS : St we ρ (KN kb p heard K :: F) w) :
    Cl Try.prog 13 [.pointer (some ⟨kb, 0, none⟩)] w fun v w' => St we ρ (Vec 3 1 v heard.length (heard.flatMap intL) :: KN kb p heard K :: F) w' := by
  obtain ⟨km, kvK, stK, cK, hv, k1, k2, k3, hS⟩ := kn_open hS
  refine Run.calls1 (n := 8) Try.func13 rfl rfl rfl ?_
  repeat' first
    | (apply RO.op; apply OP.callF; rfl; rfl; rfl; show Cl _ 26 _ _ _; exact cloneInts hl intl_one (.tail (.tail .head)) hS; clear hS; intro v w1 hS)
    | (apply OP.callF; rfl; rfl; rfl; show Cl _ 26 _ _ _; exact cloneInts hl intl_one (.tail (.tail .head)) hS; clear hS; intro v w1 hS; refine ⟨(by first | exact hS | exact hS.tail | exact hS.sublist (by repeat (first | exact List.Sublist.refl _ | refine .cons_cons _ ?_ | refine .cons _ ?_))), ?_⟩)
    | refine Run.seq ?_
    | refine Run.region ?_
    | (refine RO.split ?_ ?_ <;> intro hc <;> try (first | (exfalso; omega) | exact absurd rfl hc | exact Bool.noConfusion hc))
    | refine RO.nil ?_
    | refine RO.still (by exact Still.any) hS rfl ?_
    | (apply RO.op; apply OP.box hS; rfl; rfl; rfl; clear hS; intro b w1 hS)
    | (apply RO.op; apply OP.alloc hS; rfl; rfl; rfl; clear hS; intro b w1 hS)
    | (apply RO.op; apply OP.store hS; rfl; rfl; rfl; rfl; rfl; (focus ((repeat (first | apply Has.head | apply Take.head | apply Put.head | apply Has.tail | apply Take.tail | apply Put.tail)); done)); rfl; rfl; clear hS; intro w1 hS)
    | (apply RO.op; apply OP.buildSlice hS; rfl; rfl; (exact eqAuto); rfl; rfl; rfl; rfl; rfl; clear hS; intro b w1 hS)
    | (apply RO.op; apply OP.makeMap hS; rfl; clear hS; intro b w1 hS)
    | refine RO.yes rfl rfl ?_
    | refine RO.no rfl rfl rfl rfl ?_
    | refine RO.noUndef rfl rfl rfl ?_
    | refine RO.noNone rfl rfl rfl ?_
    | refine Run.cond_true rfl ?_
    | refine Run.cond_false rfl ?_
    | refine Run.skip ?_
    | refine Run.block ?_
    | refine Run.inBlock ?_
    | refine Run.exit rfl ?_
  refine Run.ret Try.func13 rfl (.tmp rfl .nil) ?_
  have h2 : St we ρ (KN kb p heard K :: _) w1 := kn_shut k1 k2 k3 (hS.take (.tail (.tail (.tail .head))) |>.picks (by focus ((repeat (first | apply Picks.all | apply Picks.nil | (refine Picks.cons (by repeat (first | apply Take.head | apply Take.tail)) ?_) | apply Picks.drop)); done)) : St we ρ (Row kb [.pointer (some ⟨p, 0, none⟩), hv, .map (some km)] 71 :: BMap km kvK stK cK :: Vec 3 1 hv heard.length (heard.flatMap intL) :: Vec 3 1 v heard.length (heard.flatMap intL) :: F) w1)
  exact h2.picks (by focus ((repeat (first | apply Picks.all | apply Picks.nil | (refine Picks.cons (by repeat (first | apply Take.head | apply Take.tail)) ?_) | apply Picks.drop)); done))

end

section
variable {we w : World} {ρ : List (Nat × Obj)} {σ F : List HP} {L : List Nd} {K : Int → Bool} {kb p lim : Nat} {heard : List Int}

theorem learn_yes {x : Int} (hh : ∀ x, K x = true → has L x = true) (hl : heard.length ≤ 100000) (hx : has L x = true) (hS : St we ρ (KN kb p heard K :: Arena p lim L :: F) w) :
    Cl Try.prog 21 [.pointer (some ⟨kb, 0, none⟩), .int .i64 x] w fun v w' => v = .int .i64 0 ∧ St we ρ (KN kb p (heard ++ [x]) (cl L (ins K x)) :: Arena p lim L :: F) w' := by
  have := learn_calls (x := x) hh hl hS
  simpa only [hx, if_true] using this
theorem learn_no {x : Int} (hh : ∀ x, K x = true → has L x = true) (hl : heard.length ≤ 100000) (hx : has L x = false) (hS : St we ρ (KN kb p heard K :: Arena p lim L :: F) w) :
    Cl Try.prog 21 [.pointer (some ⟨kb, 0, none⟩), .int .i64 x] w fun v w' => v = .int .i64 1 ∧ St we ρ (KN kb p heard K :: Arena p lim L :: F) w' := by
  have := learn_calls (x := x) hh hl hS
  simpa only [hx, Bool.false_eq_true, if_false] using this
theorem kcan_is {x : Int} {b : Bool} (hh : ∀ x, K x = true → has L x = true) (h : can L K x = b) (hS : St we ρ (KN kb p heard K :: Arena p lim L :: F) w) :
    Cl Try.prog 12 [.pointer (some ⟨kb, 0, none⟩), .int .i64 x] w fun v w' => v = .bool b ∧ St we ρ (KN kb p heard K :: Arena p lim L :: F) w' := by
  have := kcan_calls (x := x) hh hS
  rwa [h] at this
theorem ins_has {x : Int} (hh : ∀ x, K x = true → has L x = true) (hx : has L x = true) : ∀ y, ins K x y = true → has L y = true := fun y hy => by
  rcases ins_iff.1 hy with q | rfl
  · exact hh y q
  · exact hx

end
end Go.Proofs.Ythejfodjielahaa
