/-
  What is heard and known, told; a copy.
-/
import Derived.Test.YtjkfbimldgegmaaKnowSort
namespace Go.Proofs.Ytjkfbimldgegmaa
set_option maxRecDepth 8000
set_option linter.unusedSimpArgs false
set_option linter.unusedVariables false
open Go Go.RowKit

/-- What stands while a range over what is known goes on: the keys that were handed out. -/
structure RangeI (kv : List (Int × Bool)) (st : List Nat) (seen : Array Nat) (ys : List Int) : Prop where
  src : ∀ y ∈ ys, y ∈ kv.map (·.1)
  done : ∀ (i : Nat) (h1 : i < kv.length) (h2 : i < st.length), st[i] ∈ seen.toList → kv[i].1 ∈ ys
  back : ∀ (i : Nat) (h1 : i < kv.length) (h2 : i < st.length), kv[i].1 ∈ ys → st[i] ∈ seen.toList
  nodup : ys.Nodup
  len : ys.length + unseen st seen ≤ st.length
theorem rangei_start {kv : List (Int × Bool)} {st : List Nat} : RangeI kv st #[] [] :=
  ⟨by simp, by simp, by simp, List.nodup_nil, by
    have : unseen st #[] ≤ st.length := List.countP_le_length
    simp only [List.length_nil]; omega⟩
theorem rangei_next {K : Int → Bool} {kv : List (Int × Bool)} {st : List Nat} {seen : Array Nat} {ys : List Int} (hK : Knows K kv st) (hn : st.Nodup) (h : RangeI kv st seen ys) {en : MapEntry} (he : en ∈ (ents kfB vfB kv st).toArray.toList) (hs : en.born ∉ seen.toList) :
    ∃ z b s, en = ⟨.int .i64 z, .bool b, s⟩ ∧ K z = true ∧ RangeI kv st (seen.push s) (ys ++ [z]) ∧ unseen st (seen.push s) < unseen st seen := by
  obtain ⟨i, h1, h2, rfl⟩ := ents_mem hK.len (by simpa using he)
  replace hs : st[i] ∉ seen.toList := hs
  have hd := unseen_push (List.getElem_mem h2) hs
  refine ⟨_, _, _, rfl, (hK.all _).1 (List.mem_map.2 ⟨_, List.getElem_mem h1, rfl⟩), ⟨fun y hy => ?_, fun j j1 j2 hj => ?_, fun j j1 j2 hj => ?_, ?_, ?_⟩, hd⟩
  · rcases List.mem_append.1 hy with q | q
    · exact h.src y q
    · rw [List.mem_singleton.1 q]; exact List.mem_map.2 ⟨_, List.getElem_mem h1, rfl⟩
  · rw [Array.toList_push, List.mem_append, List.mem_singleton] at hj
    rcases hj with q | q
    · exact List.mem_append.2 (.inl (h.done j j1 j2 q))
    · obtain rfl : j = i := (List.getElem_inj hn).1 q
      simp
  · rw [Array.toList_push, List.mem_append, List.mem_singleton]
    rcases List.mem_append.1 hj with q | q
    · exact .inl (h.back j j1 j2 q)
    · have q2 := List.mem_singleton.1 q
      have hk : (kv.map (·.1)).Nodup := hK.keyed
      have : (kv.map (·.1))[j]'(by simpa using j1) = (kv.map (·.1))[i]'(by simpa using h1) := by simpa using q2
      obtain rfl : j = i := (List.getElem_inj hk).1 this
      exact .inr rfl
  · refine List.nodup_append.2 ⟨h.nodup, by simp, fun a ha b hb e => ?_⟩
    subst e
    rw [List.mem_singleton.1 hb] at ha
    exact hs (h.back i h1 h2 ha)
  · have := h.len
    rw [List.length_append, List.length_singleton]
    omega
theorem rangei_end {K : Int → Bool} {kv : List (Int × Bool)} {st : List Nat} {seen : Array Nat} {ys : List Int} (hK : Knows K kv st) (h : RangeI kv st seen ys) (hall : ∀ x ∈ (ents kfB vfB kv st).toArray.toList, x.born ∈ seen.toList) (y : Int) : y ∈ ys ↔ K y = true := by
  rw [← hK.all y]
  refine ⟨h.src y, fun hy => ?_⟩
  obtain ⟨q, hq, rfl⟩ := List.mem_map.1 hy
  obtain ⟨i, hi, rfl⟩ := List.mem_iff_getElem.1 hq
  have h2 : i < st.length := by rw [hK.len]; exact hi
  refine h.done i hi h2 ?_
  have := ents_at (kf := kfB) (vf := vfB) hi h2
  exact hall _ (by simpa using List.mem_of_getElem? this)

theorem stamps_put {st st2 : List Nat} {c c2 : Nat} (h1 : st.Nodup) (h2 : ∀ s ∈ st, s < c) (h : (st2 = st ∧ c2 = c) ∨ (st2 = st ++ [c] ∧ c2 = c + 1)) : st2.Nodup ∧ ∀ s ∈ st2, s < c2 := by
  rcases h with ⟨rfl, rfl⟩ | ⟨rfl, rfl⟩
  · exact ⟨h1, h2⟩
  · refine ⟨List.nodup_append.2 ⟨h1, by simp, fun a ha b hb => ?_⟩, fun s hs => ?_⟩
    · simp at hb; subst hb; have := h2 a ha; omega
    · rcases List.mem_append.1 hs with q | q
      · have := h2 s q; omega
      · simp at q; omega

/-- All that is known, in order. -/
def knownL (L : List Nd) (K : Int → Bool) : List Int := ((List.range L.length).map fun i : Nat => (i : Int)).filter K
theorem sorted_eq : ∀ {l1 l2 : List Int}, l1.Pairwise (· < ·) → l2.Pairwise (· < ·) → (∀ y, y ∈ l1 ↔ y ∈ l2) → l1 = l2
  | [], [], _, _, _ => rfl
  | [], b :: l2, _, _, h => by have := (h b).2 (by simp); cases this
  | a :: l1, [], _, _, h => by have := (h a).1 (by simp); cases this
  | a :: l1, b :: l2, h1, h2, h => by
    rw [List.pairwise_cons] at h1 h2
    have hab : a = b := by
      have ha := (h a).1 (by simp)
      have hb := (h b).2 (by simp)
      rcases List.mem_cons.1 ha with q | q
      · exact q
      · rcases List.mem_cons.1 hb with q2 | q2
        · exact q2.symm
        · have := h1.1 b q2; have := h2.1 a q; omega
    subst hab
    rw [sorted_eq h1.2 h2.2 (fun y => ?_)]
    have := h y
    simp only [List.mem_cons] at this
    constructor
    · intro hy
      rcases this.1 (.inr hy) with rfl | q
      · have := h1.1 y hy; omega
      · exact q
    · intro hy
      rcases this.2 (.inr hy) with rfl | q
      · have := h2.1 y hy; omega
      · exact q
theorem known_sorted {L : List Nd} {K : Int → Bool} {ys : List Int} (hh : ∀ x, K x = true → has L x = true) (hn : ys.Nodup) (hy : ∀ y, y ∈ ys ↔ K y = true) : srt ys = knownL L K := by
  have hp : (srt ys).Perm ys := List.mergeSort_perm _ _
  have hs : (srt ys).Pairwise (fun x y => decide (x ≤ y) = true) := List.pairwise_mergeSort (by intro a b c h1 h2; simp at h1 h2 ⊢; omega) (by intro a b; simp; omega) ys
  have hnd := hp.nodup_iff.2 hn
  refine sorted_eq ?_ ?_ (fun y => ?_)
  · have := hs.and hnd
    exact this.imp (fun ⟨h1, h2⟩ => by simp at h1; omega)
  · unfold knownL
    refine List.Pairwise.filter _ (List.pairwise_map.2 (List.pairwise_lt_range.imp (by intro a b h; omega)))
  · rw [hp.mem_iff, hy]
    unfold knownL
    rw [List.mem_filter, List.mem_map]
    constructor
    · intro hk
      obtain ⟨i, rfl, hi⟩ := has_nat (hh y hk)
      exact ⟨⟨i, List.mem_range.2 hi, rfl⟩, hk⟩
    · exact fun h => h.2

section
variable {we w : World} {ρ : List (Nat × Obj)} {σ F : List HP} {L : List Nd} {kv kvK : List (Int × Bool)} {st stK : List Nat} {c cK : Nat} {K : Int → Bool} {kb km p p2 lim : Nat} {hv : Value}

theorem cloneInts {v : Value} {n : Nat} {xs : List Value} (hn : n ≤ 200000) (h1 : ∀ u ∈ xs, one u = true) (ht : Take (Vec 3 1 v n xs) σ F) (hS : St we ρ σ w) :
    Cl Try.prog 36 [v] w fun u w' => St we ρ (Vec 3 1 u n xs :: σ) w' := by
  have hS1 := hS.take ht
  obtain ⟨hl, ⟨rfl, rfl, rfl, -⟩ | ⟨g, cap, spare, rfl, k1, k2, k3, hS2⟩⟩ := vec_open hS1
  · clear hS1
    refine Run.calls1 (n := 8) Try.func36 rfl rfl rfl ?_
    repeat' first
      | refine Run.seq ?_
      | refine Run.region ?_
      | (refine RO.split ?_ ?_ <;> intro hc <;> try (first | (exfalso; omega) | exact absurd rfl hc | exact Bool.noConfusion hc))
      | refine RO.nil ?_
      | refine RO.still (by exact Still.any) hS rfl ?_
      | (apply RO.op; apply OP.box hS; rfl; rfl; rfl; clear hS; intro b w1 hS)
      | (apply RO.op; apply OP.alloc hS; rfl; rfl; rfl; clear hS; intro b w1 hS)
      | (apply RO.op; apply OP.store hS; rfl; rfl; rfl; rfl; rfl; (focus ((repeat (first | apply Has.head | apply Take.head | apply Put.head | apply Has.tail | apply Take.tail | apply Put.tail)); done)); rfl; rfl; clear hS; intro w1 hS)
      | (apply RO.op; apply OP.buildSlice hS; rfl; rfl; (exact eqAuto); rfl; rfl; rfl; rfl; rfl; clear hS; intro b w1 hS)
      | (apply RO.op; apply OP.makeMap hS; rfl; clear hS; intro b w1 hS)
      | refine RO.yes rfl rfl ?_
      | refine RO.no rfl rfl rfl rfl ?_
      | refine RO.noUndef rfl rfl rfl ?_
      | refine RO.noNone rfl rfl rfl ?_
      | refine Run.cond_true rfl ?_
      | refine Run.cond_false rfl ?_
      | refine Run.skip ?_
      | refine Run.block ?_
      | refine Run.inBlock ?_
      | refine Run.exit rfl ?_
    refine Run.ret Try.func36 rfl (.tmp rfl .nil) ?_
    exact vec_nil hS
  · clear hS1
    refine Run.calls1 (n := 8) Try.func36 rfl rfl rfl ?_
    clear hS
    have hS := hS2
    clear hS2
    repeat' first
      | (apply RO.op; apply OP.append (size := 1) (bytes := 8) (k := n) (news := xs) (vec_shut (size := 1) (xs := []) (l := []) (cap := 0) hS (Nat.le_refl _) (Nat.zero_le _) rfl rfl); rfl; rfl; rfl; rfl; rfl; rfl; rfl; rfl; exact (by omega); exact .head; exact (.own .head); (exact (by rw [List.drop_zero, ← hl]; exact List.take_left)); (exact hl); exact h1; (exact (by unfold maxLen; omega)); (exact (by omega)); rfl
         clear hS; intro v' w1 hS)
      | refine Run.seq ?_
      | refine Run.region ?_
      | (refine RO.split ?_ ?_ <;> intro hc <;> try (first | (exfalso; omega) | exact absurd rfl hc | exact Bool.noConfusion hc))
      | refine RO.nil ?_
      | refine RO.still (by exact Still.any) hS rfl ?_
      | (apply RO.op; apply OP.box hS; rfl; rfl; rfl; clear hS; intro b w1 hS)
      | (apply RO.op; apply OP.alloc hS; rfl; rfl; rfl; clear hS; intro b w1 hS)
      | (apply RO.op; apply OP.store hS; rfl; rfl; rfl; rfl; rfl; (focus ((repeat (first | apply Has.head | apply Take.head | apply Put.head | apply Has.tail | apply Take.tail | apply Put.tail)); done)); rfl; rfl; clear hS; intro w1 hS)
      | (apply RO.op; apply OP.buildSlice hS; rfl; rfl; (exact eqAuto); rfl; rfl; rfl; rfl; rfl; clear hS; intro b w1 hS)
      | (apply RO.op; apply OP.makeMap hS; rfl; clear hS; intro b w1 hS)
      | refine RO.yes rfl rfl ?_
      | refine RO.no rfl rfl rfl rfl ?_
      | refine RO.noUndef rfl rfl rfl ?_
      | refine RO.noNone rfl rfl rfl ?_
      | refine Run.cond_true rfl ?_
      | refine Run.cond_false rfl ?_
      | refine Run.skip ?_
      | refine Run.block ?_
      | refine Run.inBlock ?_
      | refine Run.exit rfl ?_
    refine Run.ret Try.func36 rfl (.tmp rfl .nil) ?_
    rw [Nat.zero_add, List.nil_append] at hS
    have hS3 := (vec_shut (m := n) (xs := xs) (hS.take (.tail .head)) k1 k2 (by rw [List.length_append, hl, k3, ← Nat.add_mul, Nat.add_sub_cancel' k1]) (by rw [← hl]; exact List.take_left))
    show St we ρ (Vec 3 1 v' n xs :: σ) w1
    exact hS3.untake (.tail ht)
theorem intl_one {l : List Int} : ∀ u ∈ l.flatMap intL, one u = true := by rw [ints_flat]; exact ints_one

theorem heard_calls {heard : List Int} (hl : heard.length ≤ 200000) (hS : St we ρ (KN kb p heard K :: F) w) :
    Cl Try.prog 23 [.pointer (some ⟨kb, 0, none⟩)] w fun v w' => St we ρ (Vec 3 1 v heard.length (heard.flatMap intL) :: KN kb p heard K :: F) w' := by
  obtain ⟨km, kvK, stK, cK, hv, k1, k2, k3, hS⟩ := kn_open hS
  refine Run.calls1 (n := 8) Try.func23 rfl rfl rfl ?_
  repeat' first
    | (apply RO.op; apply OP.callF; rfl; rfl; rfl; show Cl _ 36 _ _ _; exact cloneInts hl intl_one (.tail (.tail .head)) hS; clear hS; intro v w1 hS)
    | (apply OP.callF; rfl; rfl; rfl; show Cl _ 36 _ _ _; exact cloneInts hl intl_one (.tail (.tail .head)) hS; clear hS; intro v w1 hS; refine ⟨(by first | exact hS | exact hS.tail | exact hS.sublist (by repeat (first | exact List.Sublist.refl _ | refine .cons_cons _ ?_ | refine .cons _ ?_))), ?_⟩)
    | refine Run.seq ?_
    | refine Run.region ?_
    | (refine RO.split ?_ ?_ <;> intro hc <;> try (first | (exfalso; omega) | exact absurd rfl hc | exact Bool.noConfusion hc))
    | refine RO.nil ?_
    | refine RO.still (by exact Still.any) hS rfl ?_
    | (apply RO.op; apply OP.box hS; rfl; rfl; rfl; clear hS; intro b w1 hS)
    | (apply RO.op; apply OP.alloc hS; rfl; rfl; rfl; clear hS; intro b w1 hS)
    | (apply RO.op; apply OP.store hS; rfl; rfl; rfl; rfl; rfl; (focus ((repeat (first | apply Has.head | apply Take.head | apply Put.head | apply Has.tail | apply Take.tail | apply Put.tail)); done)); rfl; rfl; clear hS; intro w1 hS)
    | (apply RO.op; apply OP.buildSlice hS; rfl; rfl; (exact eqAuto); rfl; rfl; rfl; rfl; rfl; clear hS; intro b w1 hS)
    | (apply RO.op; apply OP.makeMap hS; rfl; clear hS; intro b w1 hS)
    | refine RO.yes rfl rfl ?_
    | refine RO.no rfl rfl rfl rfl ?_
    | refine RO.noUndef rfl rfl rfl ?_
    | refine RO.noNone rfl rfl rfl ?_
    | refine Run.cond_true rfl ?_
    | refine Run.cond_false rfl ?_
    | refine Run.skip ?_
    | refine Run.block ?_
    | refine Run.inBlock ?_
    | refine Run.exit rfl ?_
  refine Run.ret Try.func23 rfl (.tmp rfl .nil) ?_
  have h2 : St we ρ (KN kb p heard K :: _) w1 := kn_shut k1 k2 k3 (hS.take (.tail (.tail (.tail .head))) |>.picks (by focus ((repeat (first | apply Picks.all | apply Picks.nil | (refine Picks.cons (by repeat (first | apply Take.head | apply Take.tail)) ?_) | apply Picks.drop)); done)) : St we ρ (Row kb [.pointer (some ⟨p, 0, none⟩), hv, .map (some km)] 59 :: BMap km kvK stK cK :: Vec 3 1 hv heard.length (heard.flatMap intL) :: Vec 3 1 v heard.length (heard.flatMap intL) :: F) w1)
  exact h2.picks (by focus ((repeat (first | apply Picks.all | apply Picks.nil | (refine Picks.cons (by repeat (first | apply Take.head | apply Take.tail)) ?_) | apply Picks.drop)); done))

set_option maxHeartbeats 2000000 in
theorem known_calls {heard : List Int} (hh : ∀ x, K x = true → has L x = true) (hL : L.length ≤ 65536) (hS : St we ρ (KN kb p heard K :: F) w) :
    Cl Try.prog 27 [.pointer (some ⟨kb, 0, none⟩)] w fun v w' => St we ρ (Vec 3 1 v (knownL L K).length ((knownL L K).flatMap intL) :: KN kb p heard K :: F) w' := by
  obtain ⟨km, kvK, stK, cK, hv, k1, k2, k3, hS⟩ := kn_open hS
  have hlen := knows_len k1 hh
  have hold : ∀ x ∈ (ents kfB vfB kvK stK).toArray.toList, x.born < cK := by
    intro x hx
    obtain ⟨i, h1, h2, rfl⟩ := ents_mem k1.len (by simpa using hx)
    exact k3 _ (List.getElem_mem h2)
  have hnod : ((ents kfB vfB kvK stK).toArray.toList.map (·.born)).Nodup := by
    rw [List.toList_toArray, ents_born k1.len]; exact k2
  refine Run.calls1 (n := 21) Try.func27 rfl rfl rfl ?_
  repeat' first
    | (apply RO.op; apply OP.range hS; rfl; rfl; (exact Rd.any); rfl; clear hS; intro r w1 hS)
    | refine Run.seq ?_
    | refine Run.region ?_
    | (refine RO.split ?_ ?_ <;> intro hc <;> try (first | (exfalso; omega) | exact absurd rfl hc | exact Bool.noConfusion hc))
    | refine RO.nil ?_
    | refine RO.still (by exact Still.any) hS rfl ?_
    | (apply RO.op; apply OP.box hS; rfl; rfl; rfl; clear hS; intro b w1 hS)
    | (apply RO.op; apply OP.alloc hS; rfl; rfl; rfl; clear hS; intro b w1 hS)
    | (apply RO.op; apply OP.store hS; rfl; rfl; rfl; rfl; rfl; (focus ((repeat (first | apply Has.head | apply Take.head | apply Put.head | apply Has.tail | apply Take.tail | apply Put.tail)); done)); rfl; rfl; clear hS; intro w1 hS)
    | (apply RO.op; apply OP.buildSlice hS; rfl; rfl; (exact eqAuto); rfl; rfl; rfl; rfl; rfl; clear hS; intro b w1 hS)
    | (apply RO.op; apply OP.makeMap hS; rfl; clear hS; intro b w1 hS)
    | refine RO.yes rfl rfl ?_
    | refine RO.no rfl rfl rfl rfl ?_
    | refine RO.noUndef rfl rfl rfl ?_
    | refine RO.noNone rfl rfl rfl ?_
    | refine Run.cond_true rfl ?_
    | refine Run.cond_false rfl ?_
    | refine Run.skip ?_
    | refine Run.block ?_
    | refine Run.inBlock ?_
    | refine Run.exit rfl ?_
  refine Run.while (fun q : Array Nat × List Int × Value => [(3, q.2.2), (9, .pointer (some ⟨r, 0, none⟩))])
    (fun q w => RangeI kvK stK q.1 q.2.1 ∧ St we ρ (Vec 3 1 q.2.2 q.2.1.length (q.2.1.flatMap intL) :: Blk r (.mapIter (some km) cK q.1 cK) :: Row kb [.pointer (some ⟨p, 0, none⟩), hv, .map (some km)] 59 :: BMap km kvK stK cK :: Vec 3 1 hv heard.length (heard.flatMap intL) :: F) w)
    (fun q => unseen stK q.1) (#[], [], .slice none 0 0) ⟨rangei_start, (vec_nil hS).picks (by focus ((repeat (first | apply Picks.all | apply Picks.nil | (refine Picks.cons (by repeat (first | apply Take.head | apply Take.tail)) ?_) | apply Picks.drop)); done))⟩ (by focus ((repeat (first | exact .nil | refine .cons rfl ?_)); done)) ?_
  clear hS
  rintro ⟨seen, ys, ov⟩ w ⟨hI, hS⟩ ih
  simp only at hI hS ih ⊢
  have hol := hI.len
  obtain ⟨po, capo, rfl⟩ := vec_slice hS
  repeat' first
    | refine Run.seq ?_
    | refine Run.region ?_
    | (refine RO.split ?_ ?_ <;> intro hc <;> try (first | (exfalso; omega) | exact absurd rfl hc | exact Bool.noConfusion hc))
    | refine RO.nil ?_
    | refine RO.still (by exact Still.any) hS rfl ?_
    | (apply RO.op; apply OP.box hS; rfl; rfl; rfl; clear hS; intro b w1 hS)
    | (apply RO.op; apply OP.alloc hS; rfl; rfl; rfl; clear hS; intro b w1 hS)
    | (apply RO.op; apply OP.store hS; rfl; rfl; rfl; rfl; rfl; (focus ((repeat (first | apply Has.head | apply Take.head | apply Put.head | apply Has.tail | apply Take.tail | apply Put.tail)); done)); rfl; rfl; clear hS; intro w1 hS)
    | (apply RO.op; apply OP.buildSlice hS; rfl; rfl; (exact eqAuto); rfl; rfl; rfl; rfl; rfl; clear hS; intro b w1 hS)
    | (apply RO.op; apply OP.makeMap hS; rfl; clear hS; intro b w1 hS)
    | refine RO.yes rfl rfl ?_
    | refine RO.no rfl rfl rfl rfl ?_
    | refine RO.noUndef rfl rfl rfl ?_
    | refine RO.noNone rfl rfl rfl ?_
    | refine Run.cond_true rfl ?_
    | refine Run.cond_false rfl ?_
    | refine Run.skip ?_
    | refine Run.block ?_
    | refine Run.inBlock ?_
    | refine Run.exit rfl ?_
  apply RO.op
  apply OP.next hS
  · rfl
  · (focus ((repeat (first | apply Has.head | apply Take.head | apply Put.head | apply Has.tail | apply Take.tail | apply Put.tail)); done))
  · (exact Rd.any)
  · exact hold
  · exact Nat.le_refl _
  · rfl
  · intro hall
    have hS2 := hS.picks (by focus ((repeat (first | apply Picks.all | apply Picks.nil | (refine Picks.cons (by repeat (first | apply Take.head | apply Take.tail)) ?_) | apply Picks.drop)); done) : Picks (Vec 3 1 (.slice po ys.length capo) ys.length (ys.flatMap intL) :: Row kb [.pointer (some ⟨p, 0, none⟩), hv, .map (some km)] 59 :: BMap km kvK stK cK :: Vec 3 1 hv heard.length (heard.flatMap intL) :: F) _)
    clear hS
    have hS := hS2
    clear hS2
    repeat' first
      | (apply RO.op; apply OP.callF; rfl; rfl; rfl; show Cl _ 39 _ _ _; exact sort_calls (l := ys) (by omega) hS; clear hS; intro v w1 hS)
      | (apply OP.callF; rfl; rfl; rfl; show Cl _ 39 _ _ _; exact sort_calls (l := ys) (by omega) hS; clear hS; intro v w1 hS; refine ⟨(by first | exact hS | exact hS.tail | exact hS.sublist (by repeat (first | exact List.Sublist.refl _ | refine .cons_cons _ ?_ | refine .cons _ ?_))), ?_⟩)
      | refine Run.seq ?_
      | refine Run.region ?_
      | (refine RO.split ?_ ?_ <;> intro hc <;> try (first | (exfalso; omega) | exact absurd rfl hc | exact Bool.noConfusion hc))
      | refine RO.nil ?_
      | refine RO.still (by exact Still.any) hS rfl ?_
      | (apply RO.op; apply OP.box hS; rfl; rfl; rfl; clear hS; intro b w1 hS)
      | (apply RO.op; apply OP.alloc hS; rfl; rfl; rfl; clear hS; intro b w1 hS)
      | (apply RO.op; apply OP.store hS; rfl; rfl; rfl; rfl; rfl; (focus ((repeat (first | apply Has.head | apply Take.head | apply Put.head | apply Has.tail | apply Take.tail | apply Put.tail)); done)); rfl; rfl; clear hS; intro w1 hS)
      | (apply RO.op; apply OP.buildSlice hS; rfl; rfl; (exact eqAuto); rfl; rfl; rfl; rfl; rfl; clear hS; intro b w1 hS)
      | (apply RO.op; apply OP.makeMap hS; rfl; clear hS; intro b w1 hS)
      | refine RO.yes rfl rfl ?_
      | refine RO.no rfl rfl rfl rfl ?_
      | refine RO.noUndef rfl rfl rfl ?_
      | refine RO.noNone rfl rfl rfl ?_
      | refine Run.cond_true rfl ?_
      | refine Run.cond_false rfl ?_
      | refine Run.skip ?_
      | refine Run.block ?_
      | refine Run.inBlock ?_
      | refine Run.exit rfl ?_
    refine Run.ret Try.func27 rfl (.tmp rfl .nil) ?_
    rw [known_sorted hh hI.nodup (rangei_end k1 hI hall)] at hS
    have h2 : St we ρ (KN kb p heard K :: _) w1 := kn_shut k1 k2 k3 (hS.picks (by focus ((repeat (first | apply Picks.all | apply Picks.nil | (refine Picks.cons (by repeat (first | apply Take.head | apply Take.tail)) ?_) | apply Picks.drop)); done)) : St we ρ (Row kb [.pointer (some ⟨p, 0, none⟩), hv, .map (some km)] 59 :: BMap km kvK stK cK :: Vec 3 1 hv heard.length (heard.flatMap intL) :: Vec 3 1 (.slice po ys.length capo) (knownL L K).length ((knownL L K).flatMap intL) :: F) w1)
    exact h2.picks (by focus ((repeat (first | apply Picks.all | apply Picks.nil | (refine Picks.cons (by repeat (first | apply Take.head | apply Take.tail)) ?_) | apply Picks.drop)); done))
  · clear hS
    intro en hen hns w1 hS
    obtain ⟨z, b2, s, rfl, hz, hI2, hlt⟩ := rangei_next k1 k2 hI hen hns
    simp only at hS
    repeat' first
      | (refine RO.still (by apply Still.entry (en := ⟨.int .i64 z, .bool b2, s⟩); rfl; (exact Rd.any); (exact Rd.any); exact hen; exact hnod) hS rfl ?_)
      | (apply RO.op; apply OP.append (size := 1) (bytes := 8) (k := 1) (news := [.int .i64 z]) hS; rfl; rfl; rfl; rfl; rfl; rfl; rfl; rfl; exact (by omega); (focus ((repeat (first | apply Has.head | apply Take.head | apply Put.head | apply Has.tail | apply Take.tail | apply Put.tail)); done)); (exact Rd.any); rfl; rfl; exact (by intro v hv; simp at hv; subst hv; rfl); (exact (by unfold maxLen; omega)); (exact (by omega)); rfl
         clear hS; intro v2 w1 hS)
      | refine Run.seq ?_
      | refine Run.region ?_
      | (refine RO.split ?_ ?_ <;> intro hc <;> try (first | (exfalso; omega) | exact absurd rfl hc | exact Bool.noConfusion hc))
      | refine RO.nil ?_
      | refine RO.still (by exact Still.any) hS rfl ?_
      | (apply RO.op; apply OP.box hS; rfl; rfl; rfl; clear hS; intro b w1 hS)
      | (apply RO.op; apply OP.alloc hS; rfl; rfl; rfl; clear hS; intro b w1 hS)
      | (apply RO.op; apply OP.store hS; rfl; rfl; rfl; rfl; rfl; (focus ((repeat (first | apply Has.head | apply Take.head | apply Put.head | apply Has.tail | apply Take.tail | apply Put.tail)); done)); rfl; rfl; clear hS; intro w1 hS)
      | (apply RO.op; apply OP.buildSlice hS; rfl; rfl; (exact eqAuto); rfl; rfl; rfl; rfl; rfl; clear hS; intro b w1 hS)
      | (apply RO.op; apply OP.makeMap hS; rfl; clear hS; intro b w1 hS)
      | refine RO.yes rfl rfl ?_
      | refine RO.no rfl rfl rfl rfl ?_
      | refine RO.noUndef rfl rfl rfl ?_
      | refine RO.noNone rfl rfl rfl ?_
      | refine Run.cond_true rfl ?_
      | refine Run.cond_false rfl ?_
      | refine Run.skip ?_
      | refine Run.block ?_
      | refine Run.inBlock ?_
      | refine Run.exit rfl ?_
    refine Run.weaken (by focus ((repeat (first | exact .nil | refine .cons rfl ?_)); done)) (ih (seen.push s, ys ++ [z], v2) _ ⟨hI2, ?_⟩ hlt)
    simp only [List.length_append, List.flatMap_append]
    exact hS.picks (by focus ((repeat (first | apply Picks.all | apply Picks.nil | (refine Picks.cons (by repeat (first | apply Take.head | apply Take.tail)) ?_) | apply Picks.drop)); done))

set_option maxHeartbeats 2000000 in
theorem copy_calls {heard : List Int} (hl : heard.length ≤ 200000) (hh : ∀ x, K x = true → has L x = true) (hL : L.length ≤ 65536) (hS : St we ρ (KN kb p heard K :: F) w) :
    Cl Try.prog 22 [.pointer (some ⟨kb, 0, none⟩), .pointer (some ⟨p2, 0, none⟩)] w fun v w' => ∃ kb2, v = .pointer (some ⟨kb2, 0, none⟩) ∧ St we ρ (KN kb2 p2 heard K :: KN kb p heard K :: F) w' := by
  obtain ⟨km, kvK, stK, cK, hv, k1, k2, k3, hS⟩ := kn_open hS
  have hlen := knows_len k1 hh
  have hold : ∀ x ∈ (ents kfB vfB kvK stK).toArray.toList, x.born < cK := by
    intro x hx
    obtain ⟨i, h1, h2, rfl⟩ := ents_mem k1.len (by simpa using hx)
    exact k3 _ (List.getElem_mem h2)
  have hnod : ((ents kfB vfB kvK stK).toArray.toList.map (·.born)).Nodup := by
    rw [List.toList_toArray, ents_born k1.len]; exact k2
  refine Run.calls2 (n := 31) Try.func22 rfl rfl rfl ?_
  repeat' first
    | (apply RO.op; apply OP.callF; rfl; rfl; rfl; show Cl _ 36 _ _ _; exact cloneInts hl intl_one (.tail (.tail .head)) hS; clear hS; intro v w1 hS; obtain ⟨po, capo, rfl⟩ := vec_slice hS)
    | (apply OP.callF; rfl; rfl; rfl; show Cl _ 36 _ _ _; exact cloneInts hl intl_one (.tail (.tail .head)) hS; clear hS; intro v w1 hS; obtain ⟨po, capo, rfl⟩ := vec_slice hS; refine ⟨(by first | exact hS | exact hS.tail | exact hS.sublist (by repeat (first | exact List.Sublist.refl _ | refine .cons_cons _ ?_ | refine .cons _ ?_))), ?_⟩)
    | (apply RO.op; apply OP.range hS; rfl; rfl; (exact Rd.any); rfl; clear hS; intro r w1 hS)
    | refine Run.seq ?_
    | refine Run.region ?_
    | (refine RO.split ?_ ?_ <;> intro hc <;> try (first | (exfalso; omega) | exact absurd rfl hc | exact Bool.noConfusion hc))
    | refine RO.nil ?_
    | refine RO.still (by exact Still.any) hS rfl ?_
    | (apply RO.op; apply OP.box hS; rfl; rfl; rfl; clear hS; intro b w1 hS)
    | (apply RO.op; apply OP.alloc hS; rfl; rfl; rfl; clear hS; intro b w1 hS)
    | (apply RO.op; apply OP.store hS; rfl; rfl; rfl; rfl; rfl; (focus ((repeat (first | apply Has.head | apply Take.head | apply Put.head | apply Has.tail | apply Take.tail | apply Put.tail)); done)); rfl; rfl; clear hS; intro w1 hS)
    | (apply RO.op; apply OP.buildSlice hS; rfl; rfl; (exact eqAuto); rfl; rfl; rfl; rfl; rfl; clear hS; intro b w1 hS)
    | (apply RO.op; apply OP.makeMap hS; rfl; clear hS; intro b w1 hS)
    | refine RO.yes rfl rfl ?_
    | refine RO.no rfl rfl rfl rfl ?_
    | refine RO.noUndef rfl rfl rfl ?_
    | refine RO.noNone rfl rfl rfl ?_
    | refine Run.cond_true rfl ?_
    | refine Run.cond_false rfl ?_
    | refine Run.skip ?_
    | refine Run.block ?_
    | refine Run.inBlock ?_
    | refine Run.exit rfl ?_
  rename_i m2 _ _
  refine Run.while (fun q : Array Nat × List Int × List (Int × Bool) × List Nat × Nat => [(5, .pointer (some ⟨b, 0, none⟩)), (20, .pointer (some ⟨r, 0, none⟩))])
    (fun q w => RangeI kvK stK q.1 q.2.1 ∧ Knows (insAll (fun _ => false) q.2.1) q.2.2.1 q.2.2.2.1 ∧ q.2.2.2.1.Nodup ∧ (∀ s ∈ q.2.2.2.1, s < q.2.2.2.2) ∧
      St we ρ (Blk r (.mapIter (some km) cK q.1 cK) :: Row b [.pointer (some ⟨p2, 0, none⟩), .slice po heard.length capo, .map (some m2)] 59 :: BMap m2 q.2.2.1 q.2.2.2.1 q.2.2.2.2 :: Vec 3 1 (.slice po heard.length capo) heard.length (heard.flatMap intL) ::
        Row kb [.pointer (some ⟨p, 0, none⟩), hv, .map (some km)] 59 :: BMap km kvK stK cK :: Vec 3 1 hv heard.length (heard.flatMap intL) :: F) w)
    (fun q => unseen stK q.1) (#[], [], [], [], 0) ⟨rangei_start, knows_none, List.nodup_nil, by simp, hS.picks (by focus ((repeat (first | apply Picks.all | apply Picks.nil | (refine Picks.cons (by repeat (first | apply Take.head | apply Take.tail)) ?_) | apply Picks.drop)); done))⟩ (by focus ((repeat (first | exact .nil | refine .cons rfl ?_)); done)) ?_
  clear hS
  rintro ⟨seen, ys, kv, st, c⟩ w ⟨hI, q1, q2, q3, hS⟩ ih
  simp only at hI q1 q2 q3 hS ih ⊢
  repeat' first
    | refine Run.seq ?_
    | refine Run.region ?_
    | (refine RO.split ?_ ?_ <;> intro hc <;> try (first | (exfalso; omega) | exact absurd rfl hc | exact Bool.noConfusion hc))
    | refine RO.nil ?_
    | refine RO.still (by exact Still.any) hS rfl ?_
    | (apply RO.op; apply OP.box hS; rfl; rfl; rfl; clear hS; intro b w1 hS)
    | (apply RO.op; apply OP.alloc hS; rfl; rfl; rfl; clear hS; intro b w1 hS)
    | (apply RO.op; apply OP.store hS; rfl; rfl; rfl; rfl; rfl; (focus ((repeat (first | apply Has.head | apply Take.head | apply Put.head | apply Has.tail | apply Take.tail | apply Put.tail)); done)); rfl; rfl; clear hS; intro w1 hS)
    | (apply RO.op; apply OP.buildSlice hS; rfl; rfl; (exact eqAuto); rfl; rfl; rfl; rfl; rfl; clear hS; intro b w1 hS)
    | (apply RO.op; apply OP.makeMap hS; rfl; clear hS; intro b w1 hS)
    | refine RO.yes rfl rfl ?_
    | refine RO.no rfl rfl rfl rfl ?_
    | refine RO.noUndef rfl rfl rfl ?_
    | refine RO.noNone rfl rfl rfl ?_
    | refine Run.cond_true rfl ?_
    | refine Run.cond_false rfl ?_
    | refine Run.skip ?_
    | refine Run.block ?_
    | refine Run.inBlock ?_
    | refine Run.exit rfl ?_
  apply RO.op
  apply OP.next hS
  · rfl
  · (focus ((repeat (first | apply Has.head | apply Take.head | apply Put.head | apply Has.tail | apply Take.tail | apply Put.tail)); done))
  · (exact Rd.any)
  · exact hold
  · exact Nat.le_refl _
  · rfl
  · intro hall
    repeat' first
      | refine Run.seq ?_
      | refine Run.region ?_
      | (refine RO.split ?_ ?_ <;> intro hc <;> try (first | (exfalso; omega) | exact absurd rfl hc | exact Bool.noConfusion hc))
      | refine RO.nil ?_
      | refine RO.still (by exact Still.any) hS rfl ?_
      | (apply RO.op; apply OP.box hS; rfl; rfl; rfl; clear hS; intro b w1 hS)
      | (apply RO.op; apply OP.alloc hS; rfl; rfl; rfl; clear hS; intro b w1 hS)
      | (apply RO.op; apply OP.store hS; rfl; rfl; rfl; rfl; rfl; (focus ((repeat (first | apply Has.head | apply Take.head | apply Put.head | apply Has.tail | apply Take.tail | apply Put.tail)); done)); rfl; rfl; clear hS; intro w1 hS)
      | (apply RO.op; apply OP.buildSlice hS; rfl; rfl; (exact eqAuto); rfl; rfl; rfl; rfl; rfl; clear hS; intro b w1 hS)
      | (apply RO.op; apply OP.makeMap hS; rfl; clear hS; intro b w1 hS)
      | refine RO.yes rfl rfl ?_
      | refine RO.no rfl rfl rfl rfl ?_
      | refine RO.noUndef rfl rfl rfl ?_
      | refine RO.noNone rfl rfl rfl ?_
      | refine Run.cond_true rfl ?_
      | refine Run.cond_false rfl ?_
      | refine Run.skip ?_
      | refine Run.block ?_
      | refine Run.inBlock ?_
      | refine Run.exit rfl ?_
    refine Run.ret Try.func22 rfl (.tmp rfl .nil) ?_
    have hK : insAll (fun _ => false) ys = K := by
      funext y
      rw [Bool.eq_iff_iff, insAll_iff, rangei_end k1 hI hall y]
      simp
    rw [hK] at q1
    have h2 : St we ρ (KN b p2 heard K :: _) w := kn_shut q1 q2 q3 (hS.picks (by focus ((repeat (first | apply Picks.all | apply Picks.nil | (refine Picks.cons (by repeat (first | apply Take.head | apply Take.tail)) ?_) | apply Picks.drop)); done)) : St we ρ (Row b [.pointer (some ⟨p2, 0, none⟩), .slice po heard.length capo, .map (some m2)] 59 :: BMap m2 kv st c :: Vec 3 1 (.slice po heard.length capo) heard.length (heard.flatMap intL) ::
        Row kb [.pointer (some ⟨p, 0, none⟩), hv, .map (some km)] 59 :: BMap km kvK stK cK :: Vec 3 1 hv heard.length (heard.flatMap intL) :: F) w)
    have h3 : St we ρ (KN kb p heard K :: _) w := kn_shut k1 k2 k3 (h2.picks (by focus ((repeat (first | apply Picks.all | apply Picks.nil | (refine Picks.cons (by repeat (first | apply Take.head | apply Take.tail)) ?_) | apply Picks.drop)); done)) : St we ρ (Row kb [.pointer (some ⟨p, 0, none⟩), hv, .map (some km)] 59 :: BMap km kvK stK cK :: Vec 3 1 hv heard.length (heard.flatMap intL) :: KN b p2 heard K :: F) w)
    exact ⟨b, rfl, h3.picks (by focus ((repeat (first | apply Picks.all | apply Picks.nil | (refine Picks.cons (by repeat (first | apply Take.head | apply Take.tail)) ?_) | apply Picks.drop)); done))⟩
  · clear hS
    intro en hen hns w1 hS
    obtain ⟨z, b2, s, rfl, hz, hI2, hlt⟩ := rangei_next k1 k2 hI hen hns
    simp only at hS
    obtain ⟨kv2, st2, c2, hput, k4, k5⟩ := knows_put q1 z c
    have e0 : insAll (fun _ => false) (ys ++ [z]) = ins (insAll (fun _ => false) ys) z := insAll_snoc _ _ _
    rw [← e0] at k4
    have k6 := stamps_put q2 q3 k5
    repeat' first
      | (refine RO.still (by apply Still.entry (en := ⟨.int .i64 z, .bool b2, s⟩); rfl; (exact Rd.any); (exact Rd.any); exact hen; exact hnod) hS rfl ?_)
      | (apply RO.op; apply OP.mapUpdate hS; rfl; rfl; rfl; rfl; (focus ((repeat (first | apply Has.head | apply Take.head | apply Put.head | apply Has.tail | apply Take.tail | apply Put.tail)); done)); exact KeyIs.int (f := intK) rfl (ents_keys intK_of); exact bits_int (ents_keys intK_of); exact hput; clear hS; intro w1 hS)
      | refine Run.seq ?_
      | refine Run.region ?_
      | (refine RO.split ?_ ?_ <;> intro hc <;> try (first | (exfalso; omega) | exact absurd rfl hc | exact Bool.noConfusion hc))
      | refine RO.nil ?_
      | refine RO.still (by exact Still.any) hS rfl ?_
      | (apply RO.op; apply OP.box hS; rfl; rfl; rfl; clear hS; intro b w1 hS)
      | (apply RO.op; apply OP.alloc hS; rfl; rfl; rfl; clear hS; intro b w1 hS)
      | (apply RO.op; apply OP.store hS; rfl; rfl; rfl; rfl; rfl; (focus ((repeat (first | apply Has.head | apply Take.head | apply Put.head | apply Has.tail | apply Take.tail | apply Put.tail)); done)); rfl; rfl; clear hS; intro w1 hS)
      | (apply RO.op; apply OP.buildSlice hS; rfl; rfl; (exact eqAuto); rfl; rfl; rfl; rfl; rfl; clear hS; intro b w1 hS)
      | (apply RO.op; apply OP.makeMap hS; rfl; clear hS; intro b w1 hS)
      | refine RO.yes rfl rfl ?_
      | refine RO.no rfl rfl rfl rfl ?_
      | refine RO.noUndef rfl rfl rfl ?_
      | refine RO.noNone rfl rfl rfl ?_
      | refine Run.cond_true rfl ?_
      | refine Run.cond_false rfl ?_
      | refine Run.skip ?_
      | refine Run.block ?_
      | refine Run.inBlock ?_
      | refine Run.exit rfl ?_
    refine Run.weaken (by focus ((repeat (first | exact .nil | refine .cons rfl ?_)); done)) (ih (seen.push s, ys ++ [z], kv2, st2, c2) _ ⟨hI2, k4, k6.1, k6.2, ?_⟩ hlt)
    exact hS.picks (by focus ((repeat (first | apply Picks.all | apply Picks.nil | (refine Picks.cons (by repeat (first | apply Take.head | apply Take.tail)) ?_) | apply Picks.drop)); done))
end
end Go.Proofs.Ytjkfbimldgegmaa
