/-
  Learn: a term is known, and all that comes of it.
-/
import Derived.Test.YthejfodjielahaaKnow7
namespace Go.Proofs.Ythejfodjielahaa
set_option maxRecDepth 8000
set_option linter.unusedSimpArgs false
set_option linter.unusedVariables false
open Go Go.RowKit

theorem insAll_snoc (K : Int → Bool) (l : List Int) (x : Int) : insAll K (l ++ [x]) = ins (insAll K l) x := by
  unfold insAll; rw [List.foldl_append]; rfl

/-- What stands while learning goes on. -/
structure LearnI (L : List Nd) (K : Int → Bool) (x : Int) (K2 : Int → Bool) (l : List Int) : Prop where
  sub : ∀ y, K y = true → K2 y = true
  self : x ∈ l ∨ K2 x = true
  within : ∀ C, Closed L C → (∀ y, ins K x y = true → C y = true) → (∀ y, K2 y = true → C y = true) ∧ ∀ y ∈ l, C y = true
  hasK : ∀ y, K2 y = true → has L y = true
  hasl : ∀ y ∈ l, has L y = true
  fin : l = [] → Closed L K2
  len : l.length ≤ 200000

/-- How far learning is from its end. -/
def learnM (L : List Nd) (K2 : Int → Bool) (l : List Int) : Nat := 2 * rest L K2 + (if l ≠ [] ∧ ∀ y ∈ l, K2 y = true then 1 else 0)

theorem learni_start {L : List Nd} {K : Int → Bool} {x : Int} (hh : ∀ y, K y = true → has L y = true) (hx : has L x = true) : LearnI L K x K [x] :=
  ⟨fun _ h => h, .inl (by simp), fun C _ hs => ⟨fun y hy => hs y (ins_iff.2 (.inl hy)), fun y hy => hs y (ins_iff.2 (.inr (by simpa using hy)))⟩, hh, by simpa using hx, by simp, by simp⟩
theorem learni_end {L : List Nd} {K K2 : Int → Bool} {x : Int} (h : LearnI L K x K2 []) : K2 = cl L (ins K x) := by
  refine cl_unique (h.fin rfl) (fun y hy => ?_) (fun C hC hs y hy => (h.within C hC hs).1 y hy)
  rcases ins_iff.1 hy with h1 | rfl
  · exact h.sub y h1
  · rcases h.self with h2 | h2
    · cases h2
    · exact h2
theorem learni_step {lim : Nat} {L : List Nd} (g : Good lim L) {K K2 : Int → Bool} {x : Int} {l l2 : List Int} (h : LearnI L K x K2 l) (hl : l ≠ []) (h1 : ∀ x ∈ l2, insAll K2 l x = false ∧ ∃ z, insAll K2 l z = true ∧ x ∈ comesOf L (insAll K2 l) z)
    (h2 : ∀ z, insAll K2 l z = true → ∀ x ∈ comesOf L (insAll K2 l) z, insAll K2 l x = true ∨ x ∈ l2) (h3 : l2.length ≤ 200000) : LearnI L K x (insAll K2 l) l2 ∧ learnM L (insAll K2 l) l2 < learnM L K2 l := by
  have hall : ∀ y, insAll K2 l y = true → has L y = true := fun y hy => by
    rcases insAll_iff.1 hy with q | q
    · exact h.hasK y q
    · exact h.hasl y q
  refine ⟨⟨fun y hy => insAll_iff.2 (.inl (h.sub y hy)), .inr ?_, fun C hC hs => ?_, hall, fun y hy => ?_, fun he => ?_, h3⟩, ?_⟩
  · rcases h.self with q | q
    · exact insAll_iff.2 (.inr q)
    · exact insAll_iff.2 (.inl q)
  · obtain ⟨q1, q2⟩ := h.within C hC hs
    have q3 : ∀ y, insAll K2 l y = true → C y = true := fun y hy => by
      rcases insAll_iff.1 hy with q | q
      · exact q1 y q
      · exact q2 y q
    refine ⟨q3, fun y hy => ?_⟩
    obtain ⟨_, z, hz, hc⟩ := h1 y hy
    exact comes_cl hC q3 hz hc
  · obtain ⟨_, z, hz, hc⟩ := h1 y hy
    exact comes_has g (hall z hz) hc
  · subst he
    exact closed_of (fun z hz x hx => by
      rcases h2 z hz x hx with q | q
      · exact q
      · cases q)
  · have hno : ¬ (l2 ≠ [] ∧ ∀ y ∈ l2, insAll K2 l y = true) := by
      rintro ⟨q1, q2⟩
      obtain ⟨y, l3, rfl⟩ := List.exists_cons_of_ne_nil q1
      have q3 := q2 y (by simp)
      have q4 := (h1 y (by simp)).1
      rw [q3] at q4; cases q4
    unfold learnM
    rw [if_neg hno]
    by_cases hk : ∀ y ∈ l, K2 y = true
    · rw [if_pos ⟨hl, hk⟩]
      have : insAll K2 l = K2 := by
        funext y
        rw [Bool.eq_iff_iff, insAll_iff]
        exact ⟨fun q => q.elim id (hk y), .inl⟩
      rw [this]; omega
    · rw [if_neg (fun q => hk q.2)]
      obtain ⟨y, hy⟩ := Classical.not_forall.1 hk
      obtain ⟨hy1, hy2⟩ := Classical.not_imp.1 hy
      have := rest_lt (L := L) (K := K2) (K' := insAll K2 l) (fun z hz => insAll_iff.2 (.inl hz)) (h.hasl y hy1) (by simpa using hy2) (insAll_iff.2 (.inr hy1))
      omega

section
variable {we w : World} {ρ : List (Nat × Obj)} {σ F : List HP} {L : List Nd} {kv kvK : List (Int × Bool)} {st stK : List Nat} {c cK : Nat} {K : Int → Bool} {kb km p lim : Nat} {hv : Value}

set_option maxHeartbeats 8000000 in
theorem learn_calls {heard : List Int} {x : Int} (hh : ∀ x, K x = true → has L x = true) (hl : heard.length ≤ 100000) (hS : St we ρ (KN kb p heard K :: Arena p lim L :: F) w) :
    Cl Try.prog 21 [.pointer (some ⟨kb, 0, none⟩), .int .i64 x] w fun v w' => v = .int .i64 (if has L x = true then 0 else 1) ∧
      St we ρ (KN kb p (if has L x = true then heard ++ [x] else heard) (if has L x = true then cl L (ins K x) else K) :: Arena p lim L :: F) w' := by
  obtain ⟨g, hS⟩ := arena_good (hS.take (.tail .head))
  obtain ⟨km, kvK, stK, cK, hv, k1, k2, k3, hS⟩ := kn_open (hS.take (.tail .head))
  obtain ⟨pk, capk, rfl⟩ := vec_slice (hS.take (.tail (.tail .head)))
  cases hx : has L x with
  | false =>
    refine Run.calls2 (n := 45) Try.func21 rfl rfl rfl ?_
    have hx1 : [x].all (has L) = false := by simp [hx]
    repeat' first
      | (apply RO.op; apply OP.callF; rfl; rfl; rfl; exact has_calls (xs := [x]) (hS.take (by focus ((repeat (first | apply Has.head | apply Take.head | apply Put.head | apply Has.tail | apply Take.tail | apply Put.tail)); done))) (by exact Rd.any) ints1 len1; clear hS; rintro v w1 ⟨rfl, hS⟩; rw [hx1])
      | refine Run.seq ?_
      | refine Run.region ?_
      | (refine RO.split ?_ ?_ <;> intro hc <;> try (first | (exfalso; omega) | exact absurd rfl hc | exact Bool.noConfusion hc))
      | refine RO.nil ?_
      | refine RO.still (by exact Still.any) hS rfl ?_
      | (apply RO.op; apply OP.box hS; rfl; rfl; rfl; clear hS; intro b w1 hS)
      | (apply RO.op; apply OP.alloc hS; rfl; rfl; rfl; clear hS; intro b w1 hS)
      | (apply RO.op; apply OP.store hS; rfl; rfl; rfl; rfl; rfl; (focus ((repeat (first | apply Has.head | apply Take.head | apply Put.head | apply Has.tail | apply Take.tail | apply Put.tail)); done)); rfl; rfl; clear hS; intro w1 hS)
      | (apply RO.op; apply OP.buildSlice hS; rfl; rfl; (exact eqAuto); rfl; rfl; rfl; rfl; rfl; clear hS; intro b w1 hS)
      | (apply RO.op; apply OP.makeMap hS; rfl; clear hS; intro b w1 hS)
      | refine RO.yes rfl rfl ?_
      | refine RO.no rfl rfl rfl rfl ?_
      | refine RO.noUndef rfl rfl rfl ?_
      | refine RO.noNone rfl rfl rfl ?_
      | refine Run.cond_true rfl ?_
      | refine Run.cond_false rfl ?_
      | refine Run.skip ?_
      | refine Run.block ?_
      | refine Run.inBlock ?_
      | refine Run.exit rfl ?_
    refine Run.ret Try.func21 rfl (.tmp rfl .nil) ?_
    have h2 : St we ρ (KN kb p heard K :: Arena p lim L :: F) _ := kn_shut k1 k2 k3 (hS.picks (by focus ((repeat (first | apply Picks.all | apply Picks.nil | (refine Picks.cons (by repeat (first | apply Take.head | apply Take.tail)) ?_) | apply Picks.drop)); done)))
    exact ⟨rfl, h2⟩
  | true =>
    refine Run.calls2 (n := 45) Try.func21 rfl rfl rfl ?_
    have hx1 : [x].all (has L) = true := by simp [hx]
    repeat' first
      | (apply RO.op; apply OP.callF; rfl; rfl; rfl; exact has_calls (xs := [x]) (hS.take (by focus ((repeat (first | apply Has.head | apply Take.head | apply Put.head | apply Has.tail | apply Take.tail | apply Put.tail)); done))) (by exact Rd.any) ints1 len1; clear hS; rintro v w1 ⟨rfl, hS⟩; rw [hx1])
      | (apply RO.op; apply OP.append (size := 1) (bytes := 8) (k := 1) (news := [.int .i64 x]) hS; rfl; rfl; rfl; rfl; rfl; rfl; rfl; rfl; exact (by omega); (focus ((repeat (first | apply Has.head | apply Take.head | apply Put.head | apply Has.tail | apply Take.tail | apply Put.tail)); done)); (exact Rd.any); rfl; rfl; exact (by intro v hv; simp at hv; subst hv; rfl); (exact (by unfold maxLen; omega)); (exact (by omega)); rfl
         clear hS; intro v2 w1 hS; obtain ⟨pk2, capk2, rfl⟩ := vec_slice hS)
      | refine Run.seq ?_
      | refine Run.region ?_
      | (refine RO.split ?_ ?_ <;> intro hc <;> try (first | (exfalso; omega) | exact absurd rfl hc | exact Bool.noConfusion hc))
      | refine RO.nil ?_
      | refine RO.still (by exact Still.any) hS rfl ?_
      | (apply RO.op; apply OP.box hS; rfl; rfl; rfl; clear hS; intro b w1 hS)
      | (apply RO.op; apply OP.alloc hS; rfl; rfl; rfl; clear hS; intro b w1 hS)
      | (apply RO.op; apply OP.store hS; rfl; rfl; rfl; rfl; rfl; (focus ((repeat (first | apply Has.head | apply Take.head | apply Put.head | apply Has.tail | apply Take.tail | apply Put.tail)); done)); rfl; rfl; clear hS; intro w1 hS)
      | (apply RO.op; apply OP.buildSlice hS; rfl; rfl; (exact eqAuto); rfl; rfl; rfl; rfl; rfl; clear hS; intro b w1 hS)
      | (apply RO.op; apply OP.makeMap hS; rfl; clear hS; intro b w1 hS)
      | refine RO.yes rfl rfl ?_
      | refine RO.no rfl rfl rfl rfl ?_
      | refine RO.noUndef rfl rfl rfl ?_
      | refine RO.noNone rfl rfl rfl ?_
      | refine Run.cond_true rfl ?_
      | refine Run.cond_false rfl ?_
      | refine Run.skip ?_
      | refine Run.block ?_
      | refine Run.inBlock ?_
      | refine Run.exit rfl ?_
    have hS2 : St we ρ (Row b [.int .i64 x] 3 :: Row kb [.pointer (some ⟨p, 0, none⟩), .slice pk2 (heard.length + 1) capk2, .map (some km)] 71 :: BMap km kvK stK cK :: Vec 3 1 (.slice pk2 (heard.length + 1) capk2) (heard ++ [x]).length ((heard ++ [x]).flatMap intL) :: Arena p lim L :: F) w1 := by
      rw [List.length_append, List.flatMap_append]; exact hS.picks (by focus ((repeat (first | apply Picks.all | apply Picks.nil | (refine Picks.cons (by repeat (first | apply Take.head | apply Take.tail)) ?_) | apply Picks.drop)); done))
    have hS3 := vec_shut (m := 1) (cap := 1) (size := 1) (xs := ([x] : List Int).flatMap intL) hS2 (Nat.le_refl _) (by unfold maxLen; omega) rfl rfl
    have hS4 := kn_shut k1 k2 k3 (hS3.take (.tail .head) |>.picks (by focus ((repeat (first | apply Picks.all | apply Picks.nil | (refine Picks.cons (by repeat (first | apply Take.head | apply Take.tail)) ?_) | apply Picks.drop)); done)) : St we ρ (Row kb [.pointer (some ⟨p, 0, none⟩), .slice pk2 (heard.length + 1) capk2, .map (some km)] 71 :: BMap km kvK stK cK :: Vec 3 1 (.slice pk2 (heard.length + 1) capk2) (heard ++ [x]).length ((heard ++ [x]).flatMap intL) :: Vec 3 1 (.slice (some ⟨b, 0, none⟩) 1 1) 1 ([x].flatMap intL) :: Arena p lim L :: F) w1)
    clear hS hS2 hS3
    refine Run.while (fun q : (Int → Bool) × List Int × Value => [(0, .pointer (some ⟨kb, 0, none⟩)), (5, q.2.2)])
      (fun q w => LearnI L K x q.1 q.2.1 ∧ St we ρ (KN kb p (heard ++ [x]) q.1 :: Vec 3 1 q.2.2 q.2.1.length (q.2.1.flatMap intL) :: Arena p lim L :: F) w)
      (fun q => learnM L q.1 q.2.1) (K, [x], .slice (some ⟨b, 0, none⟩) 1 1) ⟨learni_start hh hx, hS4⟩ (by focus ((repeat (first | exact .nil | refine .cons rfl ?_)); done)) ?_
    clear hS4 k1 k2 k3
    rintro ⟨K2, l, lv⟩ w ⟨hI, hS⟩ ih
    simp only at hI hS ih ⊢
    by_cases hl0 : l = []
    · have hlen : l.length = 0 := by rw [hl0]; rfl
      obtain ⟨pl, capl, rfl⟩ := vec_slice (hS.take (.tail .head))
      repeat' first
        | refine Run.seq ?_
        | refine Run.region ?_
        | (refine RO.split ?_ ?_ <;> intro hc <;> try (first | (exfalso; omega) | exact absurd rfl hc | exact Bool.noConfusion hc))
        | refine RO.nil ?_
        | refine RO.still (by exact Still.any) hS rfl ?_
        | (apply RO.op; apply OP.box hS; rfl; rfl; rfl; clear hS; intro b w1 hS)
        | (apply RO.op; apply OP.alloc hS; rfl; rfl; rfl; clear hS; intro b w1 hS)
        | (apply RO.op; apply OP.store hS; rfl; rfl; rfl; rfl; rfl; (focus ((repeat (first | apply Has.head | apply Take.head | apply Put.head | apply Has.tail | apply Take.tail | apply Put.tail)); done)); rfl; rfl; clear hS; intro w1 hS)
        | (apply RO.op; apply OP.buildSlice hS; rfl; rfl; (exact eqAuto); rfl; rfl; rfl; rfl; rfl; clear hS; intro b w1 hS)
        | (apply RO.op; apply OP.makeMap hS; rfl; clear hS; intro b w1 hS)
        | refine RO.yes rfl rfl ?_
        | refine RO.no rfl rfl rfl rfl ?_
        | refine RO.noUndef rfl rfl rfl ?_
        | refine RO.noNone rfl rfl rfl ?_
        | refine Run.cond_true rfl ?_
        | refine Run.cond_false rfl ?_
        | refine Run.skip ?_
        | refine Run.block ?_
        | refine Run.inBlock ?_
        | refine Run.exit rfl ?_
      refine Run.ret Try.func21 rfl (.tmp rfl .nil) ?_
      subst hl0
      have he := learni_end hI
      subst he
      exact ⟨rfl, hS.picks (by focus ((repeat (first | apply Picks.all | apply Picks.nil | (refine Picks.cons (by repeat (first | apply Take.head | apply Take.tail)) ?_) | apply Picks.drop)); done))⟩
    · have hpos : 0 < l.length := List.length_pos_iff.2 hl0
      have hll := hI.len
      obtain ⟨_, ⟨_, h0, _⟩ | ⟨g0, capl, spare, rfl, c1, c2, c3, hS2⟩⟩ := vec_open (hS.take (.tail .head))
      · omega
      obtain ⟨km, kvK, stK, cK, hv, k1, k2, k3, hS3⟩ := kn_open (hS2.take (.tail .head))
      clear hS hS2
      have hS := hS3
      clear hS3
      have hcs : ∀ (i : Nat) (h : i < l.length), (l.flatMap intL ++ spare)[i]? = some (.int .i64 l[i]) := by
        intro i h
        rw [ints_flat, List.getElem?_append_left (by simpa using h)]
        simp [h]
      generalize hcell : l.flatMap intL ++ spare = cells at hS hcs
      repeat' first
        | refine Run.seq ?_
        | refine Run.region ?_
        | (refine RO.split ?_ ?_ <;> intro hc <;> try (first | (exfalso; omega) | exact absurd rfl hc | exact Bool.noConfusion hc))
        | refine RO.nil ?_
        | refine RO.still (by exact Still.any) hS rfl ?_
        | (apply RO.op; apply OP.box hS; rfl; rfl; rfl; clear hS; intro b w1 hS)
        | (apply RO.op; apply OP.alloc hS; rfl; rfl; rfl; clear hS; intro b w1 hS)
        | (apply RO.op; apply OP.store hS; rfl; rfl; rfl; rfl; rfl; (focus ((repeat (first | apply Has.head | apply Take.head | apply Put.head | apply Has.tail | apply Take.tail | apply Put.tail)); done)); rfl; rfl; clear hS; intro w1 hS)
        | (apply RO.op; apply OP.buildSlice hS; rfl; rfl; (exact eqAuto); rfl; rfl; rfl; rfl; rfl; clear hS; intro b w1 hS)
        | (apply RO.op; apply OP.makeMap hS; rfl; clear hS; intro b w1 hS)
        | refine RO.yes rfl rfl ?_
        | refine RO.no rfl rfl rfl rfl ?_
        | refine RO.noUndef rfl rfl rfl ?_
        | refine RO.noNone rfl rfl rfl ?_
        | refine Run.cond_true rfl ?_
        | refine Run.cond_false rfl ?_
        | refine Run.skip ?_
        | refine Run.block ?_
        | refine Run.inBlock ?_
        | refine Run.exit rfl ?_
      refine Run.while (fun q : Nat × List (Int × Bool) × List Nat × Nat => [(0, .pointer (some ⟨kb, 0, none⟩)), (33, .slice (some ⟨g0, 0, none⟩) l.length capl), (34, .int .i64 l.length), (35, .int .i64 q.1)])
        (fun q w => q.1 ≤ l.length ∧ Knows (insAll K2 (l.take q.1)) q.2.1 q.2.2.1 ∧ q.2.2.1.Nodup ∧ (∀ s ∈ q.2.2.1, s < q.2.2.2) ∧
          St we ρ (Row kb [.pointer (some ⟨p, 0, none⟩), hv, .map (some km)] 71 :: BMap km q.2.1 q.2.2.1 q.2.2.2 :: Vec 3 1 hv (heard ++ [x]).length ((heard ++ [x]).flatMap intL) :: Row g0 cells 3 :: Arena p lim L :: F) w) (fun q => l.length - q.1) (0, kvK, stK, cK)
        ⟨by simp, by simpa [insAll] using k1, k2, k3, hS.picks (by focus ((repeat (first | apply Picks.all | apply Picks.nil | (refine Picks.cons (by repeat (first | apply Take.head | apply Take.tail)) ?_) | apply Picks.drop)); done))⟩ (by focus ((repeat (first | exact .nil | refine .cons rfl ?_)); done)) ?_
      clear hS k1 k2 k3
      rintro ⟨i, kv, st, c⟩ w ⟨hi, k1, k2, k3, hS⟩ ih2
      simp only at hi k1 k2 k3 hS ih2 ⊢
      by_cases hlt : i < l.length
      · have hci := hcs i hlt
        have e0 : insAll K2 (l.take (i + 1)) = ins (insAll K2 (l.take i)) l[i] := by rw [List.take_succ_eq_append_getElem hlt, insAll_snoc]
        generalize l[i] = z at hci e0
        obtain ⟨kv2, st2, c2, hput, k4, k5⟩ := knows_put k1 z c
        rw [← e0] at k4
        have k6 : st2.Nodup ∧ ∀ s ∈ st2, s < c2 := by
          rcases k5 with ⟨rfl, rfl⟩ | ⟨rfl, rfl⟩
          · exact ⟨k2, k3⟩
          · refine ⟨List.nodup_append.2 ⟨k2, by simp, fun a ha b hb => ?_⟩, fun s hs => ?_⟩
            · simp at hb; subst hb; have := k3 a ha; omega
            · rcases List.mem_append.1 hs with q | q
              · have := k3 s q; omega
              · simp at q; omega
        repeat' first
          | (refine RO.still (by apply Still.load; rfl; rfl; (exact Rd.any); exact hci) hS rfl ?_)
          | (apply RO.op; apply OP.mapUpdate hS; rfl; rfl; rfl; rfl; (focus ((repeat (first | apply Has.head | apply Take.head | apply Put.head | apply Has.tail | apply Take.tail | apply Put.tail)); done)); exact KeyIs.int (f := intK) rfl (ents_keys intK_of); exact bits_int (ents_keys intK_of); exact hput; clear hS; intro w1 hS)
          | refine Run.seq ?_
          | refine Run.region ?_
          | (refine RO.split ?_ ?_ <;> intro hc <;> try (first | (exfalso; omega) | exact absurd rfl hc | exact Bool.noConfusion hc))
          | refine RO.nil ?_
          | refine RO.still (by exact Still.any) hS rfl ?_
          | (apply RO.op; apply OP.box hS; rfl; rfl; rfl; clear hS; intro b w1 hS)
          | (apply RO.op; apply OP.alloc hS; rfl; rfl; rfl; clear hS; intro b w1 hS)
          | (apply RO.op; apply OP.store hS; rfl; rfl; rfl; rfl; rfl; (focus ((repeat (first | apply Has.head | apply Take.head | apply Put.head | apply Has.tail | apply Take.tail | apply Put.tail)); done)); rfl; rfl; clear hS; intro w1 hS)
          | (apply RO.op; apply OP.buildSlice hS; rfl; rfl; (exact eqAuto); rfl; rfl; rfl; rfl; rfl; clear hS; intro b w1 hS)
          | (apply RO.op; apply OP.makeMap hS; rfl; clear hS; intro b w1 hS)
          | refine RO.yes rfl rfl ?_
          | refine RO.no rfl rfl rfl rfl ?_
          | refine RO.noUndef rfl rfl rfl ?_
          | refine RO.noNone rfl rfl rfl ?_
          | refine Run.cond_true rfl ?_
          | refine Run.cond_false rfl ?_
          | refine Run.skip ?_
          | refine Run.block ?_
          | refine Run.inBlock ?_
          | refine Run.exit rfl ?_
        refine Run.weaken (by focus ((repeat (first | exact .nil | refine .cons rfl ?_)); done)) (ih2 (i + 1, kv2, st2, c2) _ ⟨by simp; omega, k4, k6.1, k6.2, ?_⟩ (by simp; omega))
        exact hS.picks (by focus ((repeat (first | apply Picks.all | apply Picks.nil | (refine Picks.cons (by repeat (first | apply Take.head | apply Take.tail)) ?_) | apply Picks.drop)); done))
      · obtain rfl : i = l.length := by omega
        rw [List.take_of_length_le (Nat.le_refl _)] at k1
        have hS2 : St we ρ (KN kb p (heard ++ [x]) (insAll K2 l) :: Arena p lim L :: F) _ := kn_shut k1 k2 k3 (hS.picks (by focus ((repeat (first | apply Picks.all | apply Picks.nil | (refine Picks.cons (by repeat (first | apply Take.head | apply Take.tail)) ?_) | apply Picks.drop)); done)))
        clear hS
        have hS := hS2
        clear hS2
        have hhas : ∀ y, insAll K2 l y = true → has L y = true := fun y hy => by
          rcases insAll_iff.1 hy with q | q
          · exact hI.hasK y q
          · exact hI.hasl y q
        repeat' first
          | (apply RO.op; apply OP.callF; rfl; rfl; rfl; show Cl _ 31 _ _ _; exact more_calls hhas hS; clear hS; rintro v w1 ⟨l2, m1, m2, m3, hS⟩)
          | (apply OP.callF; rfl; rfl; rfl; show Cl _ 31 _ _ _; exact more_calls hhas hS; clear hS; rintro v w1 ⟨l2, m1, m2, m3, hS⟩; refine ⟨(by first | exact hS | exact hS.tail | exact hS.sublist (by repeat (first | exact List.Sublist.refl _ | refine .cons_cons _ ?_ | refine .cons _ ?_))), ?_⟩)
          | refine Run.seq ?_
          | refine Run.region ?_
          | (refine RO.split ?_ ?_ <;> intro hc <;> try (first | (exfalso; omega) | exact absurd rfl hc | exact Bool.noConfusion hc))
          | refine RO.nil ?_
          | refine RO.still (by exact Still.any) hS rfl ?_
          | (apply RO.op; apply OP.box hS; rfl; rfl; rfl; clear hS; intro b w1 hS)
          | (apply RO.op; apply OP.alloc hS; rfl; rfl; rfl; clear hS; intro b w1 hS)
          | (apply RO.op; apply OP.store hS; rfl; rfl; rfl; rfl; rfl; (focus ((repeat (first | apply Has.head | apply Take.head | apply Put.head | apply Has.tail | apply Take.tail | apply Put.tail)); done)); rfl; rfl; clear hS; intro w1 hS)
          | (apply RO.op; apply OP.buildSlice hS; rfl; rfl; (exact eqAuto); rfl; rfl; rfl; rfl; rfl; clear hS; intro b w1 hS)
          | (apply RO.op; apply OP.makeMap hS; rfl; clear hS; intro b w1 hS)
          | refine RO.yes rfl rfl ?_
          | refine RO.no rfl rfl rfl rfl ?_
          | refine RO.noUndef rfl rfl rfl ?_
          | refine RO.noNone rfl rfl rfl ?_
          | refine Run.cond_true rfl ?_
          | refine Run.cond_false rfl ?_
          | refine Run.skip ?_
          | refine Run.block ?_
          | refine Run.inBlock ?_
          | refine Run.exit rfl ?_
        obtain ⟨n1, n2⟩ := learni_step g hI hl0 m1 m2 m3
        refine Run.weaken (by focus ((repeat (first | exact .nil | refine .cons rfl ?_)); done)) (ih (insAll K2 l, l2, v) _ ⟨n1, ?_⟩ n2)
        exact hS.picks (by focus ((repeat (first | apply Picks.all | apply Picks.nil | (refine Picks.cons (by repeat (first | apply Take.head | apply Take.tail)) ?_) | apply Picks.drop)); done))
end
end Go.Proofs.Ythejfodjielahaa
