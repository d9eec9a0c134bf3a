/-
  more: what comes of all that is known, and is not.
-/
import Derived.Test.YthejfodjielahaaKnow5
import Derived.Test.YthejfodjielahaaKnow6
namespace Go.Proofs.Ythejfodjielahaa
set_option maxRecDepth 8000
set_option linter.unusedSimpArgs false
set_option linter.unusedVariables false
open Go Go.RowKit

/-! ### A map's entries, one by one -/
section
variable {α β : Type} {kf : α → Value} {vf : β → Value}
theorem ents_at : ∀ {kv : List (α × β)} {st : List Nat} {i : Nat} (h1 : i < kv.length) (h2 : i < st.length), (ents kf vf kv st)[i]? = some ⟨kf kv[i].1, vf kv[i].2, st[i]⟩
  | [], _, _, h, _ => by simp at h
  | _ :: _, [], _, _, h => by simp at h
  | (a, b) :: l, s :: st, 0, _, _ => by simp [ents]
  | (a, b) :: l, s :: st, i + 1, h1, h2 => by
    simp only [ents, List.getElem?_cons_succ, List.getElem_cons_succ]
    exact ents_at (by simpa using h1) (by simpa using h2)
theorem ents_mem {kv : List (α × β)} {st : List Nat} (h : st.length = kv.length) {en : MapEntry} (he : en ∈ ents kf vf kv st) : ∃ (i : Nat) (h1 : i < kv.length) (h2 : i < st.length), en = ⟨kf kv[i].1, vf kv[i].2, st[i]⟩ := by
  obtain ⟨i, hi, rfl⟩ := List.mem_iff_getElem.1 he
  have hl := ents_length (kf := kf) (vf := vf) h
  have h1 : i < kv.length := by omega
  refine ⟨i, h1, by omega, ?_⟩
  have := ents_at (kf := kf) (vf := vf) h1 (by omega : i < st.length)
  rw [List.getElem?_eq_getElem hi, Option.some.injEq] at this
  exact this
theorem ents_born : ∀ {kv : List (α × β)} {st : List Nat}, st.length = kv.length → (ents kf vf kv st).map (·.born) = st
  | [], [], _ => rfl
  | [], s :: st, h => by simp at h
  | (a, b) :: l, [], h => by simp at h
  | (a, b) :: l, s :: st, h => by
    simp only [ents, List.map_cons]
    rw [ents_born (by simpa using h)]
end

/-- How many stamps were not seen. -/
def unseen (st : List Nat) (seen : Array Nat) : Nat := st.countP fun s => decide (s ∉ seen.toList)
theorem unseen_push : ∀ {st : List Nat} {seen : Array Nat} {s : Nat}, s ∈ st → s ∉ seen.toList → unseen st (seen.push s) < unseen st seen := by
  intro st seen s
  have hle : ∀ (l : List Nat), unseen l (seen.push s) ≤ unseen l seen := by
    intro l
    unfold unseen
    refine List.countP_mono_left fun x _ hx => ?_
    simp only [Array.toList_push, List.mem_append, List.mem_singleton, not_or, decide_eq_true_eq] at hx ⊢
    exact hx.1
  induction st with
  | nil => intro h; cases h
  | cons a l ih =>
    intro hm hn
    have h1 := hle l
    unfold unseen at h1 ih ⊢
    rw [List.countP_cons, List.countP_cons]
    rcases List.mem_cons.1 hm with rfl | hm
    · simp [hn] at h1 ⊢; omega
    · have := ih hm hn
      by_cases h : a ∈ seen.toList
      · rw [if_neg (by simp [h]), if_neg (by simp [h])]; omega
      · rw [if_pos (show decide (a ∉ seen.toList) = true by simpa using h)]
        split <;> omega

/-- What stands while a range over what is known goes on. -/
structure MoreI (L : List Nd) (K : Int → Bool) (kv : List (Int × Bool)) (st : List Nat) (seen : Array Nat) (out : List Int) : Prop where
  src : ∀ x ∈ out, K x = false ∧ ∃ z, K z = true ∧ x ∈ comesOf L K z
  done : ∀ (i : Nat) (h1 : i < kv.length) (h2 : i < st.length), st[i] ∈ seen.toList → ∀ x ∈ comesOf L K kv[i].1, K x = true ∨ x ∈ out
  len : out.length + 2 * unseen st seen ≤ 2 * st.length
theorem morei_start {L : List Nd} {K : Int → Bool} {kv : List (Int × Bool)} {st : List Nat} : MoreI L K kv st #[] [] :=
  ⟨by simp, by simp, by
    have : unseen st #[] ≤ st.length := List.countP_le_length
    simp only [List.length_nil]; omega⟩
theorem morei_step {L : List Nd} {K : Int → Bool} {kv : List (Int × Bool)} {st : List Nat} {seen : Array Nat} {out : List Int} (hK : Knows K kv st) (hn : st.Nodup) (h : MoreI L K kv st seen out) {i : Nat} (h1 : i < kv.length) (h2 : i < st.length) (hs : st[i] ∉ seen.toList) :
    MoreI L K kv st (seen.push st[i]) (out ++ (comesOf L K kv[i].1).filter fun x => !K x) := by
  have hk : K kv[i].1 = true := (hK.all _).1 (List.mem_map.2 ⟨_, List.getElem_mem h1, rfl⟩)
  refine ⟨fun x hx => ?_, fun j j1 j2 hj x hx => ?_, ?_⟩
  · rcases List.mem_append.1 hx with hx | hx
    · exact h.src x hx
    · rw [List.mem_filter] at hx
      exact ⟨by simpa using hx.2, _, hk, hx.1⟩
  · rw [Array.toList_push, List.mem_append, List.mem_singleton] at hj
    rcases hj with hj | hj
    · rcases h.done j j1 j2 hj x hx with q | q
      · exact .inl q
      · exact .inr (List.mem_append.2 (.inl q))
    · obtain rfl : j = i := (List.getElem_inj hn).1 hj
      cases hkx : K x with
      | true => exact .inl rfl
      | false => exact .inr (List.mem_append.2 (.inr (List.mem_filter.2 ⟨hx, by simp [hkx]⟩)))
  · have q1 := unseen_push (List.getElem_mem h2) hs
    have q2 := h.len
    have q3 := comesOf_len L K kv[i].1
    have q4 := List.length_filter_le (fun x => !K x) (comesOf L K kv[i].1)
    rw [List.length_append]
    omega
theorem knows_len {L : List Nd} {K : Int → Bool} {kv : List (Int × Bool)} {st : List Nat} (hK : Knows K kv st) (hh : ∀ x, K x = true → has L x = true) : st.length ≤ L.length := by
  rw [hK.len]
  have h1 : (kv.map (·.1)).Nodup := hK.keyed
  have h2 : ∀ x ∈ kv.map (·.1), x ∈ (List.range L.length).map fun i : Nat => (i : Int) := by
    intro x hx
    obtain ⟨i, rfl, hi⟩ := has_nat (hh x ((hK.all x).1 hx))
    exact List.mem_map.2 ⟨i, List.mem_range.2 hi, rfl⟩
  have := h1.length_le_of_subset h2
  simpa using this

theorem morei_next {L : List Nd} {K : Int → Bool} {kv : List (Int × Bool)} {st : List Nat} {seen : Array Nat} {out : List Int} (hK : Knows K kv st) (hn : st.Nodup) (h : MoreI L K kv st seen out) {en : MapEntry} (he : en ∈ (ents kfB vfB kv st).toArray.toList) (hs : en.born ∉ seen.toList) :
    ∃ z b s, en = ⟨.int .i64 z, .bool b, s⟩ ∧ K z = true ∧ MoreI L K kv st (seen.push s) (out ++ (comesOf L K z).filter fun x => !K x) ∧ unseen st (seen.push s) < unseen st seen := by
  obtain ⟨i, h1, h2, rfl⟩ := ents_mem hK.len (by simpa using he)
  exact ⟨_, _, _, rfl, (hK.all _).1 (List.mem_map.2 ⟨_, List.getElem_mem h1, rfl⟩), morei_step hK hn h h1 h2 hs, unseen_push (List.getElem_mem h2) hs⟩
theorem morei_end {L : List Nd} {K : Int → Bool} {kv : List (Int × Bool)} {st : List Nat} {seen : Array Nat} {out : List Int} (hK : Knows K kv st) (h : MoreI L K kv st seen out) (hall : ∀ x ∈ (ents kfB vfB kv st).toArray.toList, x.born ∈ seen.toList) :
    ∀ z, K z = true → ∀ x ∈ comesOf L K z, K x = true ∨ x ∈ out := by
  intro z hz
  obtain ⟨q, hq, rfl⟩ := List.mem_map.1 ((hK.all z).2 hz)
  obtain ⟨i, hi, rfl⟩ := List.mem_iff_getElem.1 hq
  have h2 : i < st.length := by rw [hK.len]; exact hi
  refine h.done i hi h2 ?_
  have := ents_at (kf := kfB) (vf := vfB) hi h2
  exact hall _ (by simpa using List.mem_of_getElem? this)

theorem take5 {we w : World} {ρ : List (Nat × Obj)} {σ : List HP} {A1 A2 A3 A4 A5 : HP} {F1 F2 F3 F4 F5 : List HP} (h : St we ρ σ w) (t1 : Take A1 σ F1) (t2 : Take A2 F1 F2) (t3 : Take A3 F2 F3) (t4 : Take A4 F3 F4) (t5 : Take A5 F4 F5) :
    St we ρ (A5 :: A4 :: A3 :: A2 :: A1 :: F5) w :=
  ((((h.take t1).take (.tail t2)).take (.tail (.tail t3))).take (.tail (.tail (.tail t4)))).take (.tail (.tail (.tail (.tail t5))))

section
variable {we w : World} {ρ : List (Nat × Obj)} {σ F : List HP} {L : List Nd} {kv kvK : List (Int × Bool)} {st stK : List Nat} {c cK : Nat} {K : Int → Bool} {kb km p lim : Nat} {hv : Value}

set_option maxHeartbeats 8000000 in
theorem more_calls {heard : List Int} (hh : ∀ x, K x = true → has L x = true) (hS : St we ρ (KN kb p heard K :: Arena p lim L :: F) w) :
    Cl Try.prog 31 [.pointer (some ⟨kb, 0, none⟩)] w fun v w' => ∃ l : List Int, (∀ x ∈ l, K x = false ∧ ∃ z, K z = true ∧ x ∈ comesOf L K z) ∧ (∀ z, K z = true → ∀ x ∈ comesOf L K z, K x = true ∨ x ∈ l) ∧ l.length ≤ 200000 ∧
      St we ρ (Vec 3 1 v l.length (l.flatMap intL) :: KN kb p heard K :: Arena p lim L :: F) w' := by
  obtain ⟨g, hS⟩ := arena_good (hS.take (.tail .head))
  obtain ⟨km, kvK, stK, cK, hv, k1, k2, k3, hS⟩ := kn_open (hS.take (.tail .head))
  replace hS := ((hS.take (.tail (.tail (.tail .head)))).take (.tail (.tail .head))).take (.tail (.tail .head))
  have hlen := knows_len k1 hh
  have hL := g.len
  have hlim := g.lim
  have hold : ∀ x ∈ (ents kfB vfB kvK stK).toArray.toList, x.born < cK := by
    intro x hx
    obtain ⟨i, h1, h2, rfl⟩ := ents_mem k1.len (by simpa using hx)
    exact k3 _ (List.getElem_mem h2)
  have hnod : ((ents kfB vfB kvK stK).toArray.toList.map (·.born)).Nodup := by
    rw [List.toList_toArray, ents_born k1.len]; exact k2
  refine Run.calls1 (n := 57) Try.func31 rfl rfl rfl ?_
  repeat' first
    | (apply RO.op; apply OP.callF; rfl; rfl; rfl; show Cl _ 25 _ _ _; exact maker_calls (L := L) (p := p) (lim := lim) (((hS.take (.tail (.tail (.tail .head)))).take (.tail (.tail (.tail .head)))).take (.tail (.tail (.tail .head)))); clear hS; rintro v w1 ⟨y, rfl, rfl, rfl, rfl, rfl, rfl, hS⟩; replace hS := St.all.1 hS; simp only [lkL, List.cons_append, List.nil_append] at hS)
    | (apply OP.callF; rfl; rfl; rfl; show Cl _ 25 _ _ _; exact maker_calls (L := L) (p := p) (lim := lim) (((hS.take (.tail (.tail (.tail .head)))).take (.tail (.tail (.tail .head)))).take (.tail (.tail (.tail .head)))); clear hS; rintro v w1 ⟨y, rfl, rfl, rfl, rfl, rfl, rfl, hS⟩; replace hS := St.all.1 hS; simp only [lkL, List.cons_append, List.nil_append] at hS; refine ⟨(by first | exact hS | exact hS.tail | exact hS.sublist (by repeat (first | exact List.Sublist.refl _ | refine .cons_cons _ ?_ | refine .cons _ ?_))), ?_⟩)
    | (apply RO.op; apply OP.range hS; rfl; rfl; (exact Rd.any); rfl; clear hS; intro r w1 hS)
    | refine Run.seq ?_
    | refine Run.region ?_
    | (refine RO.split ?_ ?_ <;> intro hc <;> try (first | (exfalso; omega) | exact absurd rfl hc | exact Bool.noConfusion hc))
    | refine RO.nil ?_
    | refine RO.still (by exact Still.any) hS rfl ?_
    | (apply RO.op; apply OP.box hS; rfl; rfl; rfl; clear hS; intro b w1 hS)
    | (apply RO.op; apply OP.alloc hS; rfl; rfl; rfl; clear hS; intro b w1 hS)
    | (apply RO.op; apply OP.store hS; rfl; rfl; rfl; rfl; rfl; (focus ((repeat (first | apply Has.head | apply Take.head | apply Put.head | apply Has.tail | apply Take.tail | apply Put.tail)); done)); rfl; rfl; clear hS; intro w1 hS)
    | (apply RO.op; apply OP.buildSlice hS; rfl; rfl; (exact eqAuto); rfl; rfl; rfl; rfl; rfl; clear hS; intro b w1 hS)
    | (apply RO.op; apply OP.makeMap hS; rfl; clear hS; intro b w1 hS)
    | refine RO.yes rfl rfl ?_
    | refine RO.no rfl rfl rfl rfl ?_
    | refine RO.noUndef rfl rfl rfl ?_
    | refine RO.noNone rfl rfl rfl ?_
    | refine Run.cond_true rfl ?_
    | refine Run.cond_false rfl ?_
    | refine Run.skip ?_
    | refine Run.block ?_
    | refine Run.inBlock ?_
    | refine Run.exit rfl ?_
  rename_i bk _ _ _ _ _
  have hS2 : St we ρ (Lk y L _ _ _ kvK stK cK :: _) _ := take9A hS
  clear hS
  refine Run.while (fun q : Array Nat × List Int × Value × List (Int × Bool) × List Nat × Nat => [(1, .pointer (some ⟨bk, 0, none⟩)), (3, canV y), (4, .pointer (some ⟨b, 0, none⟩)), (5, .func (.func 50) #[] #[.pointer (some ⟨bk, 0, none⟩), .pointer (some ⟨b, 0, none⟩)]), (16, .pointer (some ⟨r, 0, none⟩))])
    (fun q w => MoreI L K kvK stK q.1 q.2.1 ∧ Tells (can L K) q.2.2.2.1 q.2.2.2.2.1 ∧ St we ρ (Lk y L q.2.2.2.1 q.2.2.2.2.1 q.2.2.2.2.2 kvK stK cK :: Blk r (.mapIter (some y.km) cK q.1 cK) :: Vec 3 1 q.2.2.1 q.2.1.length (q.2.1.flatMap intL) :: Row bk [.pointer (some ⟨y.kb, 0, none⟩)] 30 :: Row b [q.2.2.1] 23 :: Vec 3 1 y.hv heard.length (heard.flatMap intL) :: F) w)
    (fun q => unseen stK q.1) (#[], [], .slice none 0 0, [], [], 0) ⟨morei_start, tells_none _, (vec_nil hS2).picks (by focus ((repeat (first | apply Picks.all | apply Picks.nil | (refine Picks.cons (by repeat (first | apply Take.head | apply Take.tail)) ?_) | apply Picks.drop)); done))⟩ (by focus ((repeat (first | exact .nil | refine .cons rfl ?_)); done)) ?_
  clear hS2
  rintro ⟨seen, out, ov, kv, st, c⟩ w ⟨hI, ht, hS⟩ ih
  simp only at hI ht hS ih ⊢
  replace hS := St.all.1 hS
  simp only [lkL, List.cons_append, List.nil_append] at hS
  have hol : out.length ≤ 200000 := by have := hI.len; omega
  have hcan : ∀ x (w : World) (F : List HP) (kv : List (Int × Bool)) (st : List Nat) (c : Nat), Tells (can L K) kv st → St we ρ (Lk y L kv st c kvK stK cK :: F) w → _ := fun x w F kv st c => can_of k1 hh g (x.toNat + 1) x w F kv st c (fun _ => Nat.lt_succ_self _)
  repeat' first
    | refine Run.seq ?_
    | refine Run.region ?_
    | (refine RO.split ?_ ?_ <;> intro hc <;> try (first | (exfalso; omega) | exact absurd rfl hc | exact Bool.noConfusion hc))
    | refine RO.nil ?_
    | refine RO.still (by exact Still.any) hS rfl ?_
    | (apply RO.op; apply OP.box hS; rfl; rfl; rfl; clear hS; intro b w1 hS)
    | (apply RO.op; apply OP.alloc hS; rfl; rfl; rfl; clear hS; intro b w1 hS)
    | (apply RO.op; apply OP.store hS; rfl; rfl; rfl; rfl; rfl; (focus ((repeat (first | apply Has.head | apply Take.head | apply Put.head | apply Has.tail | apply Take.tail | apply Put.tail)); done)); rfl; rfl; clear hS; intro w1 hS)
    | (apply RO.op; apply OP.buildSlice hS; rfl; rfl; (exact eqAuto); rfl; rfl; rfl; rfl; rfl; clear hS; intro b w1 hS)
    | (apply RO.op; apply OP.makeMap hS; rfl; clear hS; intro b w1 hS)
    | refine RO.yes rfl rfl ?_
    | refine RO.no rfl rfl rfl rfl ?_
    | refine RO.noUndef rfl rfl rfl ?_
    | refine RO.noNone rfl rfl rfl ?_
    | refine Run.cond_true rfl ?_
    | refine Run.cond_false rfl ?_
    | refine Run.skip ?_
    | refine Run.block ?_
    | refine Run.inBlock ?_
    | refine Run.exit rfl ?_
  apply RO.op
  apply OP.next hS
  · rfl
  · (focus ((repeat (first | apply Has.head | apply Take.head | apply Put.head | apply Has.tail | apply Take.tail | apply Put.tail)); done))
  · (exact Rd.any)
  · exact hold
  · exact Nat.le_refl _
  · rfl
  · intro hall
    repeat' first
      | refine Run.seq ?_
      | refine Run.region ?_
      | (refine RO.split ?_ ?_ <;> intro hc <;> try (first | (exfalso; omega) | exact absurd rfl hc | exact Bool.noConfusion hc))
      | refine RO.nil ?_
      | refine RO.still (by exact Still.any) hS rfl ?_
      | (apply RO.op; apply OP.box hS; rfl; rfl; rfl; clear hS; intro b w1 hS)
      | (apply RO.op; apply OP.alloc hS; rfl; rfl; rfl; clear hS; intro b w1 hS)
      | (apply RO.op; apply OP.store hS; rfl; rfl; rfl; rfl; rfl; (focus ((repeat (first | apply Has.head | apply Take.head | apply Put.head | apply Has.tail | apply Take.tail | apply Put.tail)); done)); rfl; rfl; clear hS; intro w1 hS)
      | (apply RO.op; apply OP.buildSlice hS; rfl; rfl; (exact eqAuto); rfl; rfl; rfl; rfl; rfl; clear hS; intro b w1 hS)
      | (apply RO.op; apply OP.makeMap hS; rfl; clear hS; intro b w1 hS)
      | refine RO.yes rfl rfl ?_
      | refine RO.no rfl rfl rfl rfl ?_
      | refine RO.noUndef rfl rfl rfl ?_
      | refine RO.noNone rfl rfl rfl ?_
      | refine Run.cond_true rfl ?_
      | refine Run.cond_false rfl ?_
      | refine Run.skip ?_
      | refine Run.block ?_
      | refine Run.inBlock ?_
      | refine Run.exit rfl ?_
    refine Run.ret Try.func31 rfl (.tmp rfl .nil) ?_
    have h2 : St we ρ (KN y.kb y.p heard K :: Vec 3 1 ov out.length (out.flatMap intL) :: Arena y.p y.lim L :: F) _ := kn_shut k1 k2 k3 (hS.picks (by focus ((repeat (first | apply Picks.all | apply Picks.nil | (refine Picks.cons (by repeat (first | apply Take.head | apply Take.tail)) ?_) | apply Picks.drop)); done)))
    exact ⟨out, hI.src, morei_end k1 hI hall, hol, h2.picks (by focus ((repeat (first | apply Picks.all | apply Picks.nil | (refine Picks.cons (by repeat (first | apply Take.head | apply Take.tail)) ?_) | apply Picks.drop)); done))⟩
  · clear hS
    intro en hen hns w1 hS
    obtain ⟨z, b2, s, rfl, hz, hI2, hlt⟩ := morei_next k1 k2 hI hen hns
    simp only at hS
    by_cases k8 : (nd L z).k = 8
    · have hc : comesOf L K z = [(nd L z).a, (nd L z).b] := by unfold comesOf; rw [if_pos k8]
      rw [hc] at hI2
      repeat' first
        | (refine RO.still (by apply Still.entry (en := ⟨.int .i64 z, .bool b2, s⟩); rfl; (exact Rd.any); (exact Rd.any); exact hen; exact hnod) hS rfl ?_)
        | (apply RO.op; apply OP.callF; rfl; rfl; rfl; show Cl _ 22 _ _ _; exact get_calls (hS.take (by focus ((repeat (first | apply Has.head | apply Take.head | apply Put.head | apply Has.tail | apply Take.tail | apply Put.tail)); done))); clear hS; rintro v w1 ⟨rfl, hS⟩)
        | (apply OP.callF; rfl; rfl; rfl; show Cl _ 22 _ _ _; exact get_calls (hS.take (by focus ((repeat (first | apply Has.head | apply Take.head | apply Put.head | apply Has.tail | apply Take.tail | apply Put.tail)); done))); clear hS; rintro v w1 ⟨rfl, hS⟩; refine ⟨(by first | exact hS | exact hS.tail | exact hS.sublist (by repeat (first | exact List.Sublist.refl _ | refine .cons_cons _ ?_ | refine .cons _ ?_))), ?_⟩)
        | (apply RO.op; apply OP.callV; rfl; rfl; rfl; rfl; refine put_calls (l := [(nd L z).a, (nd L z).b]) (cs := [.int .i64 (nd L z).a, .int .i64 (nd L z).b]) (el := 3) (fr := (0, 0)) k1 (by simp) hol ?_ ?_ (take5 hS (by focus ((repeat (first | apply Has.head | apply Take.head | apply Put.head | apply Has.tail | apply Take.tail | apply Put.tail)); done)) (by focus ((repeat (first | apply Has.head | apply Take.head | apply Put.head | apply Has.tail | apply Take.tail | apply Put.tail)); done)) (by focus ((repeat (first | apply Has.head | apply Take.head | apply Put.head | apply Has.tail | apply Take.tail | apply Put.tail)); done)) (by focus ((repeat (first | apply Has.head | apply Take.head | apply Put.head | apply Has.tail | apply Take.tail | apply Put.tail)); done)) (by focus ((repeat (first | apply Has.head | apply Take.head | apply Put.head | apply Has.tail | apply Take.tail | apply Put.tail)); done))); (exact Rd.any); (intro i hi; simp at hi; rcases i with _ | _ | i <;> first | rfl | omega); clear hS; rintro v w1 ⟨ov', hS⟩)
        | refine Run.seq ?_
        | refine Run.region ?_
        | (refine RO.split ?_ ?_ <;> intro hc <;> try (first | (exfalso; omega) | exact absurd rfl hc | exact Bool.noConfusion hc))
        | refine RO.nil ?_
        | refine RO.still (by exact Still.any) hS rfl ?_
        | (apply RO.op; apply OP.box hS; rfl; rfl; rfl; clear hS; intro b w1 hS)
        | (apply RO.op; apply OP.alloc hS; rfl; rfl; rfl; clear hS; intro b w1 hS)
        | (apply RO.op; apply OP.store hS; rfl; rfl; rfl; rfl; rfl; (focus ((repeat (first | apply Has.head | apply Take.head | apply Put.head | apply Has.tail | apply Take.tail | apply Put.tail)); done)); rfl; rfl; clear hS; intro w1 hS)
        | (apply RO.op; apply OP.buildSlice hS; rfl; rfl; (exact eqAuto); rfl; rfl; rfl; rfl; rfl; clear hS; intro b w1 hS)
        | (apply RO.op; apply OP.makeMap hS; rfl; clear hS; intro b w1 hS)
        | refine RO.yes rfl rfl ?_
        | refine RO.no rfl rfl rfl rfl ?_
        | refine RO.noUndef rfl rfl rfl ?_
        | refine RO.noNone rfl rfl rfl ?_
        | refine Run.cond_true rfl ?_
        | refine Run.cond_false rfl ?_
        | refine Run.skip ?_
        | refine Run.block ?_
        | refine Run.inBlock ?_
        | refine Run.exit rfl ?_
      refine Run.weaken (by focus ((repeat (first | exact .nil | refine .cons rfl ?_)); done)) (ih (_, _, ov', kv, st, c) _ ⟨hI2, ht, ?_⟩ hlt)
      have hS2 : St we ρ (Lk y L _ _ _ kvK stK cK :: _) _ := take9A hS
      exact hS2.picks (by focus ((repeat (first | apply Picks.all | apply Picks.nil | (refine Picks.cons (by repeat (first | apply Take.head | apply Take.tail)) ?_) | apply Picks.drop)); done))
    by_cases k7 : (nd L z).k = 7
    · have hcan := hcan (nd L z).a
      cases hca : can L K (nd L z).a with
      | true =>
        have hc : comesOf L K z = [(nd L z).c] := by unfold comesOf; rw [if_neg k8, if_pos ⟨k7, hca⟩]
        rw [hc] at hI2
        simp only [hca] at hcan
        repeat' first
          | (refine RO.still (by apply Still.entry (en := ⟨.int .i64 z, .bool b2, s⟩); rfl; (exact Rd.any); (exact Rd.any); exact hen; exact hnod) hS rfl ?_)
          | (apply RO.op; apply OP.callF; rfl; rfl; rfl; show Cl _ 22 _ _ _; exact get_calls (hS.take (by focus ((repeat (first | apply Has.head | apply Take.head | apply Put.head | apply Has.tail | apply Take.tail | apply Put.tail)); done))); clear hS; rintro v w1 ⟨rfl, hS⟩)
          | (apply OP.callF; rfl; rfl; rfl; show Cl _ 22 _ _ _; exact get_calls (hS.take (by focus ((repeat (first | apply Has.head | apply Take.head | apply Put.head | apply Has.tail | apply Take.tail | apply Put.tail)); done))); clear hS; rintro v w1 ⟨rfl, hS⟩; refine ⟨(by first | exact hS | exact hS.tail | exact hS.sublist (by repeat (first | exact List.Sublist.refl _ | refine .cons_cons _ ?_ | refine .cons _ ?_))), ?_⟩)
          | (apply RO.op; apply OP.callV; rfl; rfl; rfl; rfl; exact hcan _ _ _ _ _ ht (take9A hS); clear hS; rintro v w1 ⟨kv', st', c', rfl, ht', hS⟩; replace hS := St.all.1 hS; simp only [lkL, List.cons_append, List.nil_append] at hS)
          | (apply RO.op; apply OP.callV; rfl; rfl; rfl; rfl; refine put_calls (l := [(nd L z).c]) (cs := [.int .i64 (nd L z).c]) (el := 3) (fr := (0, 0)) k1 (by simp) hol ?_ ?_ (take5 hS (by focus ((repeat (first | apply Has.head | apply Take.head | apply Put.head | apply Has.tail | apply Take.tail | apply Put.tail)); done)) (by focus ((repeat (first | apply Has.head | apply Take.head | apply Put.head | apply Has.tail | apply Take.tail | apply Put.tail)); done)) (by focus ((repeat (first | apply Has.head | apply Take.head | apply Put.head | apply Has.tail | apply Take.tail | apply Put.tail)); done)) (by focus ((repeat (first | apply Has.head | apply Take.head | apply Put.head | apply Has.tail | apply Take.tail | apply Put.tail)); done)) (by focus ((repeat (first | apply Has.head | apply Take.head | apply Put.head | apply Has.tail | apply Take.tail | apply Put.tail)); done))); (exact Rd.any); (intro i hi; simp at hi; rcases i with _ | i <;> first | rfl | omega); clear hS; rintro v w1 ⟨ov', hS⟩)
          | refine Run.seq ?_
          | refine Run.region ?_
          | (refine RO.split ?_ ?_ <;> intro hc <;> try (first | (exfalso; omega) | exact absurd rfl hc | exact Bool.noConfusion hc))
          | refine RO.nil ?_
          | refine RO.still (by exact Still.any) hS rfl ?_
          | (apply RO.op; apply OP.box hS; rfl; rfl; rfl; clear hS; intro b w1 hS)
          | (apply RO.op; apply OP.alloc hS; rfl; rfl; rfl; clear hS; intro b w1 hS)
          | (apply RO.op; apply OP.store hS; rfl; rfl; rfl; rfl; rfl; (focus ((repeat (first | apply Has.head | apply Take.head | apply Put.head | apply Has.tail | apply Take.tail | apply Put.tail)); done)); rfl; rfl; clear hS; intro w1 hS)
          | (apply RO.op; apply OP.buildSlice hS; rfl; rfl; (exact eqAuto); rfl; rfl; rfl; rfl; rfl; clear hS; intro b w1 hS)
          | (apply RO.op; apply OP.makeMap hS; rfl; clear hS; intro b w1 hS)
          | refine RO.yes rfl rfl ?_
          | refine RO.no rfl rfl rfl rfl ?_
          | refine RO.noUndef rfl rfl rfl ?_
          | refine RO.noNone rfl rfl rfl ?_
          | refine Run.cond_true rfl ?_
          | refine Run.cond_false rfl ?_
          | refine Run.skip ?_
          | refine Run.block ?_
          | refine Run.inBlock ?_
          | refine Run.exit rfl ?_
        refine Run.weaken (by focus ((repeat (first | exact .nil | refine .cons rfl ?_)); done)) (ih (_, _, ov', kv', st', c') _ ⟨hI2, ht', ?_⟩ hlt)
        have hS2 : St we ρ (Lk y L _ _ _ kvK stK cK :: _) _ := take9A hS
        exact hS2.picks (by focus ((repeat (first | apply Picks.all | apply Picks.nil | (refine Picks.cons (by repeat (first | apply Take.head | apply Take.tail)) ?_) | apply Picks.drop)); done))
      | false =>
        have hc : comesOf L K z = [] := by unfold comesOf; rw [if_neg k8, if_neg (fun h => by rw [hca] at h; cases h.2)]
        rw [hc, List.filter_nil, List.append_nil] at hI2
        simp only [hca] at hcan
        repeat' first
          | (refine RO.still (by apply Still.entry (en := ⟨.int .i64 z, .bool b2, s⟩); rfl; (exact Rd.any); (exact Rd.any); exact hen; exact hnod) hS rfl ?_)
          | (apply RO.op; apply OP.callF; rfl; rfl; rfl; show Cl _ 22 _ _ _; exact get_calls (hS.take (by focus ((repeat (first | apply Has.head | apply Take.head | apply Put.head | apply Has.tail | apply Take.tail | apply Put.tail)); done))); clear hS; rintro v w1 ⟨rfl, hS⟩)
          | (apply OP.callF; rfl; rfl; rfl; show Cl _ 22 _ _ _; exact get_calls (hS.take (by focus ((repeat (first | apply Has.head | apply Take.head | apply Put.head | apply Has.tail | apply Take.tail | apply Put.tail)); done))); clear hS; rintro v w1 ⟨rfl, hS⟩; refine ⟨(by first | exact hS | exact hS.tail | exact hS.sublist (by repeat (first | exact List.Sublist.refl _ | refine .cons_cons _ ?_ | refine .cons _ ?_))), ?_⟩)
          | (apply RO.op; apply OP.callV; rfl; rfl; rfl; rfl; exact hcan _ _ _ _ _ ht (take9A hS); clear hS; rintro v w1 ⟨kv', st', c', rfl, ht', hS⟩; replace hS := St.all.1 hS; simp only [lkL, List.cons_append, List.nil_append] at hS)
          | refine Run.seq ?_
          | refine Run.region ?_
          | (refine RO.split ?_ ?_ <;> intro hc <;> try (first | (exfalso; omega) | exact absurd rfl hc | exact Bool.noConfusion hc))
          | refine RO.nil ?_
          | refine RO.still (by exact Still.any) hS rfl ?_
          | (apply RO.op; apply OP.box hS; rfl; rfl; rfl; clear hS; intro b w1 hS)
          | (apply RO.op; apply OP.alloc hS; rfl; rfl; rfl; clear hS; intro b w1 hS)
          | (apply RO.op; apply OP.store hS; rfl; rfl; rfl; rfl; rfl; (focus ((repeat (first | apply Has.head | apply Take.head | apply Put.head | apply Has.tail | apply Take.tail | apply Put.tail)); done)); rfl; rfl; clear hS; intro w1 hS)
          | (apply RO.op; apply OP.buildSlice hS; rfl; rfl; (exact eqAuto); rfl; rfl; rfl; rfl; rfl; clear hS; intro b w1 hS)
          | (apply RO.op; apply OP.makeMap hS; rfl; clear hS; intro b w1 hS)
          | refine RO.yes rfl rfl ?_
          | refine RO.no rfl rfl rfl rfl ?_
          | refine RO.noUndef rfl rfl rfl ?_
          | refine RO.noNone rfl rfl rfl ?_
          | refine Run.cond_true rfl ?_
          | refine Run.cond_false rfl ?_
          | refine Run.skip ?_
          | refine Run.block ?_
          | refine Run.inBlock ?_
          | refine Run.exit rfl ?_
        refine Run.weaken (by focus ((repeat (first | exact .nil | refine .cons rfl ?_)); done)) (ih (_, _, ov, kv', st', c') _ ⟨hI2, ht', ?_⟩ hlt)
        have hS2 : St we ρ (Lk y L _ _ _ kvK stK cK :: _) _ := take9A hS
        exact hS2.picks (by focus ((repeat (first | apply Picks.all | apply Picks.nil | (refine Picks.cons (by repeat (first | apply Take.head | apply Take.tail)) ?_) | apply Picks.drop)); done))
    · have hc : comesOf L K z = [] := by unfold comesOf; rw [if_neg k8, if_neg (fun h => k7 h.1)]
      rw [hc, List.filter_nil, List.append_nil] at hI2
      repeat' first
        | (refine RO.still (by apply Still.entry (en := ⟨.int .i64 z, .bool b2, s⟩); rfl; (exact Rd.any); (exact Rd.any); exact hen; exact hnod) hS rfl ?_)
        | (apply RO.op; apply OP.callF; rfl; rfl; rfl; show Cl _ 22 _ _ _; exact get_calls (hS.take (by focus ((repeat (first | apply Has.head | apply Take.head | apply Put.head | apply Has.tail | apply Take.tail | apply Put.tail)); done))); clear hS; rintro v w1 ⟨rfl, hS⟩)
        | (apply OP.callF; rfl; rfl; rfl; show Cl _ 22 _ _ _; exact get_calls (hS.take (by focus ((repeat (first | apply Has.head | apply Take.head | apply Put.head | apply Has.tail | apply Take.tail | apply Put.tail)); done))); clear hS; rintro v w1 ⟨rfl, hS⟩; refine ⟨(by first | exact hS | exact hS.tail | exact hS.sublist (by repeat (first | exact List.Sublist.refl _ | refine .cons_cons _ ?_ | refine .cons _ ?_))), ?_⟩)
        | refine Run.seq ?_
        | refine Run.region ?_
        | (refine RO.split ?_ ?_ <;> intro hc <;> try (first | (exfalso; omega) | exact absurd rfl hc | exact Bool.noConfusion hc))
        | refine RO.nil ?_
        | refine RO.still (by exact Still.any) hS rfl ?_
        | (apply RO.op; apply OP.box hS; rfl; rfl; rfl; clear hS; intro b w1 hS)
        | (apply RO.op; apply OP.alloc hS; rfl; rfl; rfl; clear hS; intro b w1 hS)
        | (apply RO.op; apply OP.store hS; rfl; rfl; rfl; rfl; rfl; (focus ((repeat (first | apply Has.head | apply Take.head | apply Put.head | apply Has.tail | apply Take.tail | apply Put.tail)); done)); rfl; rfl; clear hS; intro w1 hS)
        | (apply RO.op; apply OP.buildSlice hS; rfl; rfl; (exact eqAuto); rfl; rfl; rfl; rfl; rfl; clear hS; intro b w1 hS)
        | (apply RO.op; apply OP.makeMap hS; rfl; clear hS; intro b w1 hS)
        | refine RO.yes rfl rfl ?_
        | refine RO.no rfl rfl rfl rfl ?_
        | refine RO.noUndef rfl rfl rfl ?_
        | refine RO.noNone rfl rfl rfl ?_
        | refine Run.cond_true rfl ?_
        | refine Run.cond_false rfl ?_
        | refine Run.skip ?_
        | refine Run.block ?_
        | refine Run.inBlock ?_
        | refine Run.exit rfl ?_
      refine Run.weaken (by focus ((repeat (first | exact .nil | refine .cons rfl ?_)); done)) (ih (_, _, ov, kv, st, c) _ ⟨hI2, ht, ?_⟩ hlt)
      have hS2 : St we ρ (Lk y L _ _ _ kvK stK cK :: _) _ := take9A hS
      exact hS2.picks (by focus ((repeat (first | apply Picks.all | apply Picks.nil | (refine Picks.cons (by repeat (first | apply Take.head | apply Take.tail)) ?_) | apply Picks.drop)); done))
end
end Go.Proofs.Ythejfodjielahaa
