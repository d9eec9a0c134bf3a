/-
  The document's layer of recipes: its steps, Run.
-/
import Derived.Test.YthejfodjielahaaRunsA
import Derived.Test.YthejfodjielahaaRecipeCan
namespace Go.Proofs.Ythejfodjielahaa
set_option maxRecDepth 8000
set_option linter.unusedSimpArgs false
set_option linter.unusedVariables false
open Go Go.RowKit

/-! RecipeMore -/

theorem mk_more {lim : Nat} {L M : List Nd} (g : Good lim L) {n : Nd} (he : (mk lim L n).2.2 = 0) (g2 : Good lim ((mk lim L n).1 ++ M)) :
    mk lim ((mk lim L n).1 ++ M) n = ((mk lim L n).1 ++ M, (mk lim L n).2.1, 0) := by
  obtain ⟨h1, h2⟩ := mk_made he
  have hr : right L n = true := by
    rcases mk_cases lim L n with ⟨e, _⟩ | ⟨i, e, hr, hf⟩ | ⟨e, hr, _⟩ | ⟨e, hr, hf, hl⟩
    · rw [e] at he; simp at he
    · exact hr
    · exact hr
    · exact hr
  obtain ⟨M1, hM1⟩ := mk_prefix lim L n
  have hr2 : right ((mk lim L n).1 ++ M) n = true := by
    rw [hM1, List.append_assoc] at g2 ⊢
    exact right_append g.wf g2.wf hr
  have hx : has ((mk lim L n).1 ++ M) (mk lim L n).2.1 = true := has_append h1
  have hn : nd ((mk lim L n).1 ++ M) (mk lim L n).2.1 = n := by rw [nd_append h1, h2]
  have hf := find_of g2.uniq hx
  rw [hn] at hf
  generalize (mk lim L n).1 ++ M = L' at hx hf hr2 ⊢
  generalize (mk lim L n).2.1 = x at hx hf ⊢
  obtain ⟨i, rfl, hi⟩ := has_nat hx
  rw [Int.toNat_natCast] at hf
  simp [mk, hr2, hf]

set_option maxHeartbeats 1000000 in
theorem share_again {lim : Nat} {L M : List Nd} (g : Good lim L) {x y : Int} (he : (share lim L x y).2.2 = 0) (g2 : Good lim ((share lim L x y).1 ++ M)) :
    share lim ((share lim L x y).1 ++ M) x y = ((share lim L x y).1 ++ M, (share lim L x y).2.1, 0) := by
  have hh : has L x = true ∧ has L y = true := by
    by_cases h : has L x = true ∧ has L y = true
    · exact h
    · unfold share at he; rw [if_neg h] at he; simp at he
  obtain ⟨M1, hM1⟩ := share_prefix lim L x y
  have g3 := g2
  rw [hM1, List.append_assoc] at g3
  have hh2 : has (L ++ (M1 ++ M)) x = true ∧ has (L ++ (M1 ++ M)) y = true := ⟨has_append hh.1, has_append hh.2⟩
  have hny : nd (L ++ (M1 ++ M)) y = nd L y := nd_append hh.2
  have hL2 : (share lim L x y).1 ++ M = L ++ (M1 ++ M) := by rw [hM1, List.append_assoc]
  have key : ∀ n : Nd, share lim L x y = mk lim L n → mk lim ((share lim L x y).1 ++ M) n = ((share lim L x y).1 ++ M, (share lim L x y).2.1, 0) := fun n e => by
    rw [e] at he g2 ⊢
    exact mk_more g he g2
  by_cases h2 : (nd L y).k ≠ 2
  · have e : share lim L x y = mk lim L ⟨4, 0, x, y, 0⟩ := by unfold share; rw [if_pos hh, if_pos h2]
    have := key _ e
    rw [hL2] at this ⊢
    rw [← this]
    conv => lhs; unfold share
    rw [if_pos hh2, hny, if_pos h2]
  · have hk : (nd L y).k = 2 := by omega
    have hpa : has L (nd L y).a = true := by
      rcases nd_parts g hh.2 with q | ⟨p1, _⟩
      · omega
      · exact p1
    have hcmp : cmp (L ++ (M1 ++ M)) x (nd L y).a = cmp L x (nd L y).a :=
      cmp_append g.wf g3.wf L.length x (nd L y).a hh.1 hpa (has_iff.1 hh.1).2 (has_iff.1 hpa).2
    by_cases h3 : cmp L x (nd L y).a > 0
    · have e : share lim L x y = mk lim L ⟨3, 0, (nd L y).a, x, 0⟩ := by unfold share; rw [if_pos hh, if_neg h2, if_pos h3]
      have := key _ e
      rw [hL2] at this ⊢
      rw [← this]
      conv => lhs; unfold share
      rw [if_pos hh2, hny, if_neg h2, hcmp, if_pos h3]
    · have e : share lim L x y = mk lim L ⟨3, 0, x, (nd L y).a, 0⟩ := by unfold share; rw [if_pos hh, if_neg h2, if_neg h3]
      have := key _ e
      rw [hL2] at this ⊢
      rw [← this]
      conv => lhs; unfold share
      rw [if_pos hh2, hny, if_neg h2, hcmp, if_neg h3]

theorem taken_again {L M : List Nd} {made : List Int} {s : Stp} (h : AllHas L made) (ha : ahd made s.a = true) : takenOf (L ++ M) made s = takenOf L made s := by
  have := nd_append (M := M) (allHas_mde h ha)
  unfold takenOf
  rw [this]

section
variable {lim : Nat} {L M : List Nd} {heard made : List Int}

theorem one_again (g : Good lim L) (h1 : AllHas L heard) (h2 : AllHas L made) {s : Stp} (he : (oneS lim L heard made s).2.2 = 0) (g2 : Good lim ((oneS lim L heard made s).1 ++ M)) :
    oneS lim ((oneS lim L heard made s).1 ++ M) heard made s = ((oneS lim L heard made s).1 ++ M, (oneS lim L heard made s).2.1, 0) := by
  unfold oneS at he g2 ⊢
  by_cases c0 : s.op = 0
  · simp only [if_pos c0] at he g2 ⊢
    split at he
    · rename_i hc; simp only [if_pos hc] at g2 ⊢
    · simp at he
  simp only [if_neg c0] at he g2 ⊢
  by_cases c1 : s.op = 1
  · simp only [if_pos c1] at he g2 ⊢
    split at he
    · rename_i hc; simp only [if_pos hc] at g2 ⊢; exact mk_more g he g2
    · simp at he
  simp only [if_neg c1] at he g2 ⊢
  by_cases c2 : s.op = 2
  · simp only [if_pos c2] at he g2 ⊢
    split at he
    · rename_i hc; simp only [if_pos hc] at g2 ⊢; exact mk_more g he g2
    · simp at he
  simp only [if_neg c2] at he g2 ⊢
  by_cases c3 : s.op = 3
  · simp only [if_pos c3] at he g2 ⊢
    split at he
    · rename_i hc; simp only [if_pos hc] at g2 ⊢; exact share_again g he g2
    · simp at he
  simp only [if_neg c3] at he g2 ⊢
  by_cases c5 : s.op = 5 ∨ s.op = 8
  · simp only [if_pos c5] at he g2 ⊢
    split at he
    · rename_i hc; simp only [if_pos hc] at g2 ⊢; exact mk_more g he g2
    · simp at he
  simp only [if_neg c5] at he g2 ⊢
  by_cases c6 : s.op = 6
  · simp only [if_pos c6] at he g2 ⊢
    split at he
    · rename_i hc; simp only [if_pos hc] at g2 ⊢; exact mk_more g he g2
    · simp at he
  simp only [if_neg c6] at he g2 ⊢
  by_cases c7 : s.op = 7
  · simp only [if_pos c7] at he g2 ⊢
    split at he
    · rename_i hc; simp only [if_pos hc] at g2 ⊢; exact mk_more g he g2
    · simp at he
  simp only [if_neg c7] at he g2 ⊢
  by_cases c9 : s.op = 9
  · simp only [if_pos c9] at he g2 ⊢
    split at he
    · rename_i hc; simp only [if_pos hc] at g2 ⊢; exact mk_more g he g2
    · simp at he
  simp only [if_neg c9] at he g2 ⊢
  by_cases c10 : s.op = 10 ∨ s.op = 11
  · simp only [if_pos c10] at he g2 ⊢
    split at he
    · rename_i hc; simp only [if_pos hc] at g2 ⊢
      rw [taken_again h2 (ahead_a hc.2 (by omega))]
      exact Prod.ext rfl (Prod.ext rfl he)
    · simp at he
  simp only [if_neg c10] at he g2 ⊢
  by_cases c12 : s.op = 12
  · simp only [if_pos c12] at he g2 ⊢
    split at he
    · rename_i hc; simp only [if_pos hc] at g2 ⊢
      rw [taken_again h2 (ahead_a hc.2 (by omega))]
      exact Prod.ext rfl (Prod.ext rfl he)
    · simp at he
  simp only [if_neg c12] at he g2 ⊢
  by_cases c13 : s.op = 13
  · simp only [if_pos c13] at he g2 ⊢
    split at he
    · rename_i hc; simp only [if_pos hc] at g2 ⊢
    · simp at he
  simp only [if_neg c13] at he
  simp at he

theorem runS_ext : ∀ (l : List Stp) (L : List Nd) (made : List Int) (i : Nat), Good lim L → AllHas L heard → AllHas L made → Good lim (runS lim heard l L made i).1 ∧ ∃ M, (runS lim heard l L made i).1 = L ++ M := by
  intro l
  induction l with
  | nil => intro L made i g _ _; exact ⟨g, [], by simp [runS]⟩
  | cons s l ih =>
    intro L made i g h1 h2
    by_cases he : (oneS lim L heard made s).2.2 = 0
    · rw [runS_yes he]
      have o := one_ok g h1 h2 s
      obtain ⟨M, hM⟩ := o.ext
      obtain ⟨q1, q2, q3, q4⟩ := allHas_one g h1 h2 (s := s)
      obtain ⟨r1, M2, r2⟩ := ih _ _ (i + 1) q1 q2 (q4 he)
      exact ⟨r1, M ++ M2, by rw [r2, hM, List.append_assoc]⟩
    · unfold runS
      rw [if_pos he]
      exact ⟨g, [], by simp⟩

theorem runS_again : ∀ (l : List Stp) (L : List Nd) (made : List Int) (i : Nat), Good lim L → AllHas L heard → AllHas L made →
    runS lim heard l (runS lim heard l L made i).1 made i = runS lim heard l L made i := by
  intro l
  induction l with
  | nil => intro L made i g _ _; rfl
  | cons s l ih =>
    intro L made i g h1 h2
    by_cases he : (oneS lim L heard made s).2.2 = 0
    · rw [runS_yes he]
      obtain ⟨q1, q2, q3, q4⟩ := allHas_one g h1 h2 (s := s)
      obtain ⟨r1, M, r2⟩ := runS_ext l _ _ (i + 1) q1 q2 (q4 he)
      have e2 := ih _ _ (i + 1) q1 q2 (q4 he)
      rw [r2] at r1
      have e3 := one_again g h1 h2 he r1
      rw [← r2] at e3
      rw [runS_yes (by rw [e3]), e3]
      exact e2
    · have e : runS lim heard (s :: l) L made i = (L, [], i, (oneS lim L heard made s).2.2) := by
        conv => lhs; unfold runS
        rw [if_pos he]
      rw [e]
      exact e

theorem runS_append : ∀ (l1 l2 : List Stp) (L : List Nd) (made : List Int) (i : Nat), runS lim heard (l1 ++ l2) L made i =
    if (runS lim heard l1 L made i).2.2.2 = 0 then runS lim heard l2 (runS lim heard l1 L made i).1 (runS lim heard l1 L made i).2.1 (i + l1.length) else runS lim heard l1 L made i := by
  intro l1
  induction l1 with
  | nil => intro l2 L made i; simp [runS]
  | cons s l ih =>
    intro l2 L made i
    rw [List.cons_append]
    by_cases he : (oneS lim L heard made s).2.2 = 0
    · rw [runS_yes he, runS_yes he, ih, List.length_cons, show i + 1 + l.length = i + (l.length + 1) by omega]
    · unfold runS
      rw [if_pos he, if_pos he]
      simp only
      rw [if_neg he]

theorem runS_made : ∀ (l : List Stp) (L : List Nd) (made : List Int) (i : Nat), ((runS lim heard l L made i).2.2.2 = 0 → ∃ M, (runS lim heard l L made i).2.1 = made ++ M ∧ M.length = l.length) ∧
    ((runS lim heard l L made i).2.2.2 ≠ 0 → (runS lim heard l L made i).2.1 = [] ∧ i ≤ (runS lim heard l L made i).2.2.1) := by
  intro l
  induction l with
  | nil => intro L made i; exact ⟨fun _ => ⟨[], by simp [runS]⟩, fun h => absurd rfl h⟩
  | cons s l ih =>
    intro L made i
    by_cases he : (oneS lim L heard made s).2.2 = 0
    · rw [runS_yes he]
      obtain ⟨h1, h2⟩ := ih (oneS lim L heard made s).1 (made ++ [(oneS lim L heard made s).2.1]) (i + 1)
      refine ⟨fun h => ?_, fun h => ?_⟩
      · obtain ⟨M, e, e2⟩ := h1 h
        exact ⟨_ :: M, by rw [e, List.append_assoc]; rfl, by simp [e2]⟩
      · obtain ⟨a, b⟩ := h2 h
        exact ⟨a, by omega⟩
    · unfold runS
      rw [if_pos he]
      exact ⟨fun h => absurd h he, fun _ => ⟨rfl, Nat.le_refl _⟩⟩
end

/-! RecipeApp -/

theorem rows_flat {α : Type} {g : α → List Value} {size : Nat} (cs : List Value) : ∀ (l : List α) (off : Nat), (∀ (i : Nat) (h : i < l.length), (cs.drop (off + i * size)).take size = g l[i]) → (cs.drop off).take (l.length * size) = l.flatMap g := by
  intro l
  induction l with
  | nil => intro off _; simp
  | cons a l ih =>
    intro off h
    have h0 := h 0 (by simp)
    rw [Nat.zero_mul, Nat.add_zero] at h0
    have h1 := ih (off + size) (fun i hi => by
      have := h (i + 1) (by simp; omega)
      rw [Nat.add_mul, Nat.one_mul, show off + (i * size + size) = off + size + i * size by omega] at this
      exact this)
    rw [List.length_cons, Nat.add_mul, Nat.one_mul, Nat.add_comm (l.length * size) size, List.take_add, h0, List.drop_drop, h1, List.flatMap_cons]
    rfl

theorem sum_len {α : Type} {g : α → List Value} {size : Nat} (hg : ∀ a, (g a).length = size) (l : List α) : (l.map fun a => (g a).length).sum = l.length * size := by
  induction l with
  | nil => simp
  | cons a l ih => rw [List.map_cons, List.sum_cons, ih, hg, List.length_cons, Nat.add_mul, Nat.one_mul, Nat.add_comm]

section
variable {P : Program} {n : Nat} {e : Env} {ty : TypeId} {x y : Operand}
variable {we w : World} {ρ : List (Nat × Obj)} {σ F : List HP} {d : Nat} {pos : String} {aft : Array Edge} {gd : Option (Nat × Bool)} {K : Env → World → Prop}
variable {el : TypeId} {size m : Nat} {xs : List Value}

theorem OP.appendNone {t el : TypeId} {i : TypeInfo} {size m : Nat} {xs : List Value} {p : Option Addr} {c : Nat} {v : Value} (hS : St we ρ σ w) (hx : ev e x = some v) (hy : ev e y = some (.slice p 0 c)) (ht : elemB P t = some el) (hi : P.info? el = some i)
    (hT : Take (Vec el size v m xs) σ F) (hd : Nat.blt d n = true) (hk : K ((d, v) :: e) w) :
    OP P n ⟨some d, .call { callee := .builtin .append, args := #[x, y], argTypes := #[t, t] }, ty, pos, aft, gd⟩ e w K := by
  have hform : ∃ pk cap, v = .slice pk m cap ∧ m ≤ cap := by
    rcases (vec_open (hS.take hT)).2 with ⟨rfl, rfl, _⟩ | ⟨g, cap, spare, rfl, h1, _⟩
    · exact ⟨_, _, rfl, Nat.le_refl _⟩
    · exact ⟨_, _, rfl, h1⟩
  obtain ⟨pk, cap, rfl, hle⟩ := hform
  refine OP.put (fun a ha => ?_) hd hk
  have hrun : (Builtin.append_ #[t, t] ty #[.slice pk m cap, .slice p 0 c]).run P w = .ok (.slice pk m cap) w := by
    cases pk <;> cases p <;> simp [Builtin.append_, run_underlying (run_elem ht), sizeOf, typeInfo, hi, Builtin.lenOf, Builtin.firstCells, hle, storeCells, loadCells, loadCellsFrom]
  simp only [execOp, resolve, invoke, Sem.run_bind, Sem.run_pure, Result.andThen_ok]
  simp [builtin, ha.ev hx, ha.ev hy, hrun]

theorem OP.appendSl {α : Type} {g : α → List Value} {l : List α} {u v : Value} {t : TypeId} {i : TypeInfo} {z : Value} {bytes : Nat}
    (hS : St we ρ σ w) (hs : Sl ρ g size u l) (hg : ∀ a, (g a).length = size) (h1 : ∀ a, ∀ c ∈ g a, one c = true) (hx : ev e x = some v) (hy : ev e y = some u) (ht : elemB P t = some el) (hi : P.info? el = some i) (hz : i.zero = some z)
    (hsize : i.size = size) (hby : i.bytes = bytes) (hzs : z.cells.size = size) (hsz : 0 < size) (hT : Take (Vec el size v m xs) σ F)
    (h63 : m + l.length ≤ maxLen) (hbytes : (m + l.length) * bytes ≤ 140737488355328) (hd : Nat.blt d n = true)
    (hk : ∀ v' w1, St we ρ (Vec el size v' (m + l.length) (xs ++ l.flatMap g) :: F) w1 → K ((d, v') :: e) w1) :
    OP P n ⟨some d, .call { callee := .builtin .append, args := #[x, y], argTypes := #[t, t] }, ty, pos, aft, gd⟩ e w K := by
  obtain ⟨p, cap, rfl, hle, hcm, hrow⟩ := hs.val
  by_cases h0 : 0 < l.length
  · obtain ⟨b, off, cs, el', fr, rfl, hmem, hnd⟩ := hrow h0
    refine OP.append (news := l.flatMap g) hS hx hy ht hi hz hsize hby hzs hsz hT (Rd.ro hmem) (rows_flat cs l off hnd) ?_ ?_ h63 hbytes hd hk
    · rw [List.length_flatMap]
      exact sum_len hg l
    · intro c hc
      obtain ⟨a, _, h⟩ := List.mem_flatMap.1 hc
      exact h1 a c h
  · have hl0 : l = [] := List.eq_nil_of_length_eq_zero (by omega)
    subst hl0
    refine OP.appendNone hS hx hy ht hi hT hd (hk _ _ ?_)
    rw [List.flatMap_nil, List.append_nil, List.length_nil, Nat.add_zero]
    exact hS.take hT
end
theorem stpL_length (s : Stp) : (stpL s).length = 5 := rfl
theorem stpL_one (s : Stp) : ∀ c ∈ stpL s, one c = true := by
  intro c hc
  simp [stpL] at hc
  rcases hc with rfl | rfl | rfl | rfl | rfl <;> rfl

/-! Recipe11 -/

section
variable {we w : World} {ρ : List (Nat × Obj)} {σ F : List HP} {lim g cl0 r cap : Nat} {L : List Nd} {made heard : List Int} {hv : Value} {cells : List Value} {a : Value}

set_option maxHeartbeats 8000000 in
theorem refNo0 {n z1 z2 z3 : Int} {pg : Option Addr} {ph : Option Addr} {ch : Nat} (hno : ¬ (n = 0 ∧ z2 = 0 ∧ z3 = 0 ∧ 0 ≤ z1 ∧ z1 < heard.length))
    (hS : St we ρ (RA (raV lim r L.length cap) lim L :: F) w) :
    Cl Try.prog 27 [raV lim r L.length cap, .slice ph heard.length ch, .slice pg made.length cl0, .agg (stpL ⟨0, n, z1, z2, z3⟩).toArray] w
      fun v w' => v = .tuple #[raV lim r L.length cap, .int .i64 0, .int .i64 12] ∧ St we ρ (RA (raV lim r L.length cap) lim L :: F) w' := by
  show Cl _ _ [_, _, _, .agg [Value.int .i64 (0), Value.int .u64 n, Value.int .i64 z1, Value.int .i64 z2, Value.int .i64 z3].toArray] _ _
  refine Run.calls4 (n := 364) Try.func27 rfl rfl rfl ?_
  repeat' first
    | refine Run.seq ?_
    | refine Run.region ?_
    | (refine RO.split ?_ ?_ <;> intro hc <;> try (first | (exfalso; omega) | exact absurd rfl hc | exact Bool.noConfusion hc))
    | refine RO.nil ?_
    | refine RO.still (by exact Still.any) hS rfl ?_
    | (apply RO.op; apply OP.box hS; rfl; rfl; rfl; clear hS; intro b w1 hS)
    | (apply RO.op; apply OP.alloc hS; rfl; rfl; rfl; clear hS; intro b w1 hS)
    | (apply RO.op; apply OP.store hS; rfl; rfl; rfl; rfl; rfl; (focus ((repeat (first | apply Has.head | apply Take.head | apply Put.head | apply Has.tail | apply Take.tail | apply Put.tail)); done)); rfl; rfl; clear hS; intro w1 hS)
    | (apply RO.op; apply OP.buildSlice hS; rfl; rfl; (exact eqAuto); rfl; rfl; rfl; rfl; rfl; clear hS; intro b w1 hS)
    | (apply RO.op; apply OP.makeMap hS; rfl; clear hS; intro b w1 hS)
    | refine RO.yes rfl rfl ?_
    | refine RO.no rfl rfl rfl rfl ?_
    | refine RO.noUndef rfl rfl rfl ?_
    | refine RO.noNone rfl rfl rfl ?_
    | refine Run.cond_true rfl ?_
    | refine Run.cond_false rfl ?_
    | refine Run.skip ?_
    | refine Run.block ?_
    | refine Run.inBlock ?_
    | refine Run.exit rfl ?_
  all_goals
    refine Run.ret Try.func27 rfl (.cell rfl (by first | exact run_loadAgg rfl rfl (hS.rd (by exact Rd.any)) (by rfl) (by rfl) | exact run_loadScalar rfl (cell_of (hS.rd (by exact Rd.any)) (by rfl))) (.tmp rfl (.tmp rfl .nil))) ?_
    exact ⟨rfl, hS.picks (by focus ((repeat (first | apply Picks.all | apply Picks.nil | (refine Picks.cons (by repeat (first | apply Take.head | apply Take.tail)) ?_) | apply Picks.drop)); done))⟩

set_option maxHeartbeats 8000000 in
theorem refNo1 {n z1 z2 z3 : Int} {pg : Option Addr} {ph : Option Addr} {ch : Nat} (hno : ¬ (n < 1048576 ∧ aheadS ⟨1, n, z1, z2, z3⟩ 0 made = true))
    (hS : St we ρ (RA (raV lim r L.length cap) lim L :: F) w) :
    Cl Try.prog 27 [raV lim r L.length cap, .slice ph heard.length ch, .slice pg made.length cl0, .agg (stpL ⟨1, n, z1, z2, z3⟩).toArray] w
      fun v w' => v = .tuple #[raV lim r L.length cap, .int .i64 0, .int .i64 12] ∧ St we ρ (RA (raV lim r L.length cap) lim L :: F) w' := by
  obtain ⟨ah, hae⟩ : ∃ ah, aheadS ⟨1, n, z1, z2, z3⟩ 0 made = ah := ⟨_, rfl⟩
  have hah : ∀ {w : World} {σ : List HP}, St we ρ σ w → _ := fun {w σ} hS => refAhead (w := w) (σ := σ) (s := ⟨1, n, z1, z2, z3⟩) (u := 0) (made := made) (by omega) hS
  simp only [hae] at hah
  rw [hae] at hno
  show Cl _ _ [_, _, _, .agg [Value.int .i64 (1), Value.int .u64 n, Value.int .i64 z1, Value.int .i64 z2, Value.int .i64 z3].toArray] _ _
  cases ah
  · clear hno
    refine Run.calls4 (n := 364) Try.func27 rfl rfl rfl ?_
    repeat' first
      | (apply RO.op; apply OP.callF; rfl; rfl; rfl; show Cl _ 43 _ _ _; exact hah hS; clear hS; rintro v w1 ⟨rfl, hS⟩)
      | refine Run.seq ?_
      | refine Run.region ?_
      | (refine RO.split ?_ ?_ <;> intro hc <;> try (first | (exfalso; omega) | exact absurd rfl hc | exact Bool.noConfusion hc))
      | refine RO.nil ?_
      | refine RO.still (by exact Still.any) hS rfl ?_
      | (apply RO.op; apply OP.box hS; rfl; rfl; rfl; clear hS; intro b w1 hS)
      | (apply RO.op; apply OP.alloc hS; rfl; rfl; rfl; clear hS; intro b w1 hS)
      | (apply RO.op; apply OP.store hS; rfl; rfl; rfl; rfl; rfl; (focus ((repeat (first | apply Has.head | apply Take.head | apply Put.head | apply Has.tail | apply Take.tail | apply Put.tail)); done)); rfl; rfl; clear hS; intro w1 hS)
      | (apply RO.op; apply OP.buildSlice hS; rfl; rfl; (exact eqAuto); rfl; rfl; rfl; rfl; rfl; clear hS; intro b w1 hS)
      | (apply RO.op; apply OP.makeMap hS; rfl; clear hS; intro b w1 hS)
      | refine RO.yes rfl rfl ?_
      | refine RO.no rfl rfl rfl rfl ?_
      | refine RO.noUndef rfl rfl rfl ?_
      | refine RO.noNone rfl rfl rfl ?_
      | refine Run.cond_true rfl ?_
      | refine Run.cond_false rfl ?_
      | refine Run.skip ?_
      | refine Run.block ?_
      | refine Run.inBlock ?_
      | refine Run.exit rfl ?_
    all_goals
      refine Run.ret Try.func27 rfl (.cell rfl (by first | exact run_loadAgg rfl rfl (hS.rd (by exact Rd.any)) (by rfl) (by rfl) | exact run_loadScalar rfl (cell_of (hS.rd (by exact Rd.any)) (by rfl))) (.tmp rfl (.tmp rfl .nil))) ?_
      exact ⟨rfl, hS.picks (by focus ((repeat (first | apply Picks.all | apply Picks.nil | (refine Picks.cons (by repeat (first | apply Take.head | apply Take.tail)) ?_) | apply Picks.drop)); done))⟩
  · simp only [eq_self_iff_true, and_true] at hno
    refine Run.calls4 (n := 364) Try.func27 rfl rfl rfl ?_
    repeat' first
      | (apply RO.op; apply OP.callF; rfl; rfl; rfl; show Cl _ 43 _ _ _; exact hah hS; clear hS; rintro v w1 ⟨rfl, hS⟩)
      | refine Run.seq ?_
      | refine Run.region ?_
      | (refine RO.split ?_ ?_ <;> intro hc <;> try (first | (exfalso; omega) | exact absurd rfl hc | exact Bool.noConfusion hc))
      | refine RO.nil ?_
      | refine RO.still (by exact Still.any) hS rfl ?_
      | (apply RO.op; apply OP.box hS; rfl; rfl; rfl; clear hS; intro b w1 hS)
      | (apply RO.op; apply OP.alloc hS; rfl; rfl; rfl; clear hS; intro b w1 hS)
      | (apply RO.op; apply OP.store hS; rfl; rfl; rfl; rfl; rfl; (focus ((repeat (first | apply Has.head | apply Take.head | apply Put.head | apply Has.tail | apply Take.tail | apply Put.tail)); done)); rfl; rfl; clear hS; intro w1 hS)
      | (apply RO.op; apply OP.buildSlice hS; rfl; rfl; (exact eqAuto); rfl; rfl; rfl; rfl; rfl; clear hS; intro b w1 hS)
      | (apply RO.op; apply OP.makeMap hS; rfl; clear hS; intro b w1 hS)
      | refine RO.yes rfl rfl ?_
      | refine RO.no rfl rfl rfl rfl ?_
      | refine RO.noUndef rfl rfl rfl ?_
      | refine RO.noNone rfl rfl rfl ?_
      | refine Run.cond_true rfl ?_
      | refine Run.cond_false rfl ?_
      | refine Run.skip ?_
      | refine Run.block ?_
      | refine Run.inBlock ?_
      | refine Run.exit rfl ?_
    all_goals
      refine Run.ret Try.func27 rfl (.cell rfl (by first | exact run_loadAgg rfl rfl (hS.rd (by exact Rd.any)) (by rfl) (by rfl) | exact run_loadScalar rfl (cell_of (hS.rd (by exact Rd.any)) (by rfl))) (.tmp rfl (.tmp rfl .nil))) ?_
      exact ⟨rfl, hS.picks (by focus ((repeat (first | apply Picks.all | apply Picks.nil | (refine Picks.cons (by repeat (first | apply Take.head | apply Take.tail)) ?_) | apply Picks.drop)); done))⟩

set_option maxHeartbeats 8000000 in
theorem refNo2 {n z1 z2 z3 : Int} {pg : Option Addr} {ph : Option Addr} {ch : Nat} (hno : ¬ (n = 0 ∧ aheadS ⟨2, n, z1, z2, z3⟩ 1 made = true))
    (hS : St we ρ (RA (raV lim r L.length cap) lim L :: F) w) :
    Cl Try.prog 27 [raV lim r L.length cap, .slice ph heard.length ch, .slice pg made.length cl0, .agg (stpL ⟨2, n, z1, z2, z3⟩).toArray] w
      fun v w' => v = .tuple #[raV lim r L.length cap, .int .i64 0, .int .i64 12] ∧ St we ρ (RA (raV lim r L.length cap) lim L :: F) w' := by
  obtain ⟨ah, hae⟩ : ∃ ah, aheadS ⟨2, n, z1, z2, z3⟩ 1 made = ah := ⟨_, rfl⟩
  have hah : ∀ {w : World} {σ : List HP}, St we ρ σ w → _ := fun {w σ} hS => refAhead (w := w) (σ := σ) (s := ⟨2, n, z1, z2, z3⟩) (u := 1) (made := made) (by omega) hS
  simp only [hae] at hah
  rw [hae] at hno
  show Cl _ _ [_, _, _, .agg [Value.int .i64 (2), Value.int .u64 n, Value.int .i64 z1, Value.int .i64 z2, Value.int .i64 z3].toArray] _ _
  cases ah
  · clear hno
    refine Run.calls4 (n := 364) Try.func27 rfl rfl rfl ?_
    repeat' first
      | (apply RO.op; apply OP.callF; rfl; rfl; rfl; show Cl _ 43 _ _ _; exact hah hS; clear hS; rintro v w1 ⟨rfl, hS⟩)
      | refine Run.seq ?_
      | refine Run.region ?_
      | (refine RO.split ?_ ?_ <;> intro hc <;> try (first | (exfalso; omega) | exact absurd rfl hc | exact Bool.noConfusion hc))
      | refine RO.nil ?_
      | refine RO.still (by exact Still.any) hS rfl ?_
      | (apply RO.op; apply OP.box hS; rfl; rfl; rfl; clear hS; intro b w1 hS)
      | (apply RO.op; apply OP.alloc hS; rfl; rfl; rfl; clear hS; intro b w1 hS)
      | (apply RO.op; apply OP.store hS; rfl; rfl; rfl; rfl; rfl; (focus ((repeat (first | apply Has.head | apply Take.head | apply Put.head | apply Has.tail | apply Take.tail | apply Put.tail)); done)); rfl; rfl; clear hS; intro w1 hS)
      | (apply RO.op; apply OP.buildSlice hS; rfl; rfl; (exact eqAuto); rfl; rfl; rfl; rfl; rfl; clear hS; intro b w1 hS)
      | (apply RO.op; apply OP.makeMap hS; rfl; clear hS; intro b w1 hS)
      | refine RO.yes rfl rfl ?_
      | refine RO.no rfl rfl rfl rfl ?_
      | refine RO.noUndef rfl rfl rfl ?_
      | refine RO.noNone rfl rfl rfl ?_
      | refine Run.cond_true rfl ?_
      | refine Run.cond_false rfl ?_
      | refine Run.skip ?_
      | refine Run.block ?_
      | refine Run.inBlock ?_
      | refine Run.exit rfl ?_
    all_goals
      refine Run.ret Try.func27 rfl (.cell rfl (by first | exact run_loadAgg rfl rfl (hS.rd (by exact Rd.any)) (by rfl) (by rfl) | exact run_loadScalar rfl (cell_of (hS.rd (by exact Rd.any)) (by rfl))) (.tmp rfl (.tmp rfl .nil))) ?_
      exact ⟨rfl, hS.picks (by focus ((repeat (first | apply Picks.all | apply Picks.nil | (refine Picks.cons (by repeat (first | apply Take.head | apply Take.tail)) ?_) | apply Picks.drop)); done))⟩
  · simp only [eq_self_iff_true, and_true] at hno
    refine Run.calls4 (n := 364) Try.func27 rfl rfl rfl ?_
    repeat' first
      | (apply RO.op; apply OP.callF; rfl; rfl; rfl; show Cl _ 43 _ _ _; exact hah hS; clear hS; rintro v w1 ⟨rfl, hS⟩)
      | refine Run.seq ?_
      | refine Run.region ?_
      | (refine RO.split ?_ ?_ <;> intro hc <;> try (first | (exfalso; omega) | exact absurd rfl hc | exact Bool.noConfusion hc))
      | refine RO.nil ?_
      | refine RO.still (by exact Still.any) hS rfl ?_
      | (apply RO.op; apply OP.box hS; rfl; rfl; rfl; clear hS; intro b w1 hS)
      | (apply RO.op; apply OP.alloc hS; rfl; rfl; rfl; clear hS; intro b w1 hS)
      | (apply RO.op; apply OP.store hS; rfl; rfl; rfl; rfl; rfl; (focus ((repeat (first | apply Has.head | apply Take.head | apply Put.head | apply Has.tail | apply Take.tail | apply Put.tail)); done)); rfl; rfl; clear hS; intro w1 hS)
      | (apply RO.op; apply OP.buildSlice hS; rfl; rfl; (exact eqAuto); rfl; rfl; rfl; rfl; rfl; clear hS; intro b w1 hS)
      | (apply RO.op; apply OP.makeMap hS; rfl; clear hS; intro b w1 hS)
      | refine RO.yes rfl rfl ?_
      | refine RO.no rfl rfl rfl rfl ?_
      | refine RO.noUndef rfl rfl rfl ?_
      | refine RO.noNone rfl rfl rfl ?_
      | refine Run.cond_true rfl ?_
      | refine Run.cond_false rfl ?_
      | refine Run.skip ?_
      | refine Run.block ?_
      | refine Run.inBlock ?_
      | refine Run.exit rfl ?_
    all_goals
      refine Run.ret Try.func27 rfl (.cell rfl (by first | exact run_loadAgg rfl rfl (hS.rd (by exact Rd.any)) (by rfl) (by rfl) | exact run_loadScalar rfl (cell_of (hS.rd (by exact Rd.any)) (by rfl))) (.tmp rfl (.tmp rfl .nil))) ?_
      exact ⟨rfl, hS.picks (by focus ((repeat (first | apply Picks.all | apply Picks.nil | (refine Picks.cons (by repeat (first | apply Take.head | apply Take.tail)) ?_) | apply Picks.drop)); done))⟩

set_option maxHeartbeats 8000000 in
theorem refNo3 {n z1 z2 z3 : Int} {pg : Option Addr} {ph : Option Addr} {ch : Nat} (hno : ¬ (n = 0 ∧ aheadS ⟨3, n, z1, z2, z3⟩ 2 made = true))
    (hS : St we ρ (RA (raV lim r L.length cap) lim L :: F) w) :
    Cl Try.prog 27 [raV lim r L.length cap, .slice ph heard.length ch, .slice pg made.length cl0, .agg (stpL ⟨3, n, z1, z2, z3⟩).toArray] w
      fun v w' => v = .tuple #[raV lim r L.length cap, .int .i64 0, .int .i64 12] ∧ St we ρ (RA (raV lim r L.length cap) lim L :: F) w' := by
  obtain ⟨ah, hae⟩ : ∃ ah, aheadS ⟨3, n, z1, z2, z3⟩ 2 made = ah := ⟨_, rfl⟩
  have hah : ∀ {w : World} {σ : List HP}, St we ρ σ w → _ := fun {w σ} hS => refAhead (w := w) (σ := σ) (s := ⟨3, n, z1, z2, z3⟩) (u := 2) (made := made) (by omega) hS
  simp only [hae] at hah
  rw [hae] at hno
  show Cl _ _ [_, _, _, .agg [Value.int .i64 (3), Value.int .u64 n, Value.int .i64 z1, Value.int .i64 z2, Value.int .i64 z3].toArray] _ _
  cases ah
  · clear hno
    refine Run.calls4 (n := 364) Try.func27 rfl rfl rfl ?_
    repeat' first
      | (apply RO.op; apply OP.callF; rfl; rfl; rfl; show Cl _ 43 _ _ _; exact hah hS; clear hS; rintro v w1 ⟨rfl, hS⟩)
      | refine Run.seq ?_
      | refine Run.region ?_
      | (refine RO.split ?_ ?_ <;> intro hc <;> try (first | (exfalso; omega) | exact absurd rfl hc | exact Bool.noConfusion hc))
      | refine RO.nil ?_
      | refine RO.still (by exact Still.any) hS rfl ?_
      | (apply RO.op; apply OP.box hS; rfl; rfl; rfl; clear hS; intro b w1 hS)
      | (apply RO.op; apply OP.alloc hS; rfl; rfl; rfl; clear hS; intro b w1 hS)
      | (apply RO.op; apply OP.store hS; rfl; rfl; rfl; rfl; rfl; (focus ((repeat (first | apply Has.head | apply Take.head | apply Put.head | apply Has.tail | apply Take.tail | apply Put.tail)); done)); rfl; rfl; clear hS; intro w1 hS)
      | (apply RO.op; apply OP.buildSlice hS; rfl; rfl; (exact eqAuto); rfl; rfl; rfl; rfl; rfl; clear hS; intro b w1 hS)
      | (apply RO.op; apply OP.makeMap hS; rfl; clear hS; intro b w1 hS)
      | refine RO.yes rfl rfl ?_
      | refine RO.no rfl rfl rfl rfl ?_
      | refine RO.noUndef rfl rfl rfl ?_
      | refine RO.noNone rfl rfl rfl ?_
      | refine Run.cond_true rfl ?_
      | refine Run.cond_false rfl ?_
      | refine Run.skip ?_
      | refine Run.block ?_
      | refine Run.inBlock ?_
      | refine Run.exit rfl ?_
    all_goals
      refine Run.ret Try.func27 rfl (.cell rfl (by first | exact run_loadAgg rfl rfl (hS.rd (by exact Rd.any)) (by rfl) (by rfl) | exact run_loadScalar rfl (cell_of (hS.rd (by exact Rd.any)) (by rfl))) (.tmp rfl (.tmp rfl .nil))) ?_
      exact ⟨rfl, hS.picks (by focus ((repeat (first | apply Picks.all | apply Picks.nil | (refine Picks.cons (by repeat (first | apply Take.head | apply Take.tail)) ?_) | apply Picks.drop)); done))⟩
  · simp only [eq_self_iff_true, and_true] at hno
    refine Run.calls4 (n := 364) Try.func27 rfl rfl rfl ?_
    repeat' first
      | (apply RO.op; apply OP.callF; rfl; rfl; rfl; show Cl _ 43 _ _ _; exact hah hS; clear hS; rintro v w1 ⟨rfl, hS⟩)
      | refine Run.seq ?_
      | refine Run.region ?_
      | (refine RO.split ?_ ?_ <;> intro hc <;> try (first | (exfalso; omega) | exact absurd rfl hc | exact Bool.noConfusion hc))
      | refine RO.nil ?_
      | refine RO.still (by exact Still.any) hS rfl ?_
      | (apply RO.op; apply OP.box hS; rfl; rfl; rfl; clear hS; intro b w1 hS)
      | (apply RO.op; apply OP.alloc hS; rfl; rfl; rfl; clear hS; intro b w1 hS)
      | (apply RO.op; apply OP.store hS; rfl; rfl; rfl; rfl; rfl; (focus ((repeat (first | apply Has.head | apply Take.head | apply Put.head | apply Has.tail | apply Take.tail | apply Put.tail)); done)); rfl; rfl; clear hS; intro w1 hS)
      | (apply RO.op; apply OP.buildSlice hS; rfl; rfl; (exact eqAuto); rfl; rfl; rfl; rfl; rfl; clear hS; intro b w1 hS)
      | (apply RO.op; apply OP.makeMap hS; rfl; clear hS; intro b w1 hS)
      | refine RO.yes rfl rfl ?_
      | refine RO.no rfl rfl rfl rfl ?_
      | refine RO.noUndef rfl rfl rfl ?_
      | refine RO.noNone rfl rfl rfl ?_
      | refine Run.cond_true rfl ?_
      | refine Run.cond_false rfl ?_
      | refine Run.skip ?_
      | refine Run.block ?_
      | refine Run.inBlock ?_
      | refine Run.exit rfl ?_
    all_goals
      refine Run.ret Try.func27 rfl (.cell rfl (by first | exact run_loadAgg rfl rfl (hS.rd (by exact Rd.any)) (by rfl) (by rfl) | exact run_loadScalar rfl (cell_of (hS.rd (by exact Rd.any)) (by rfl))) (.tmp rfl (.tmp rfl .nil))) ?_
      exact ⟨rfl, hS.picks (by focus ((repeat (first | apply Picks.all | apply Picks.nil | (refine Picks.cons (by repeat (first | apply Take.head | apply Take.tail)) ?_) | apply Picks.drop)); done))⟩

set_option maxHeartbeats 8000000 in
theorem refNo5 {n z1 z2 z3 : Int} {pg : Option Addr} {ph : Option Addr} {ch : Nat} (hno : ¬ (n = 0 ∧ aheadS ⟨5, n, z1, z2, z3⟩ 2 made = true))
    (hS : St we ρ (RA (raV lim r L.length cap) lim L :: F) w) :
    Cl Try.prog 27 [raV lim r L.length cap, .slice ph heard.length ch, .slice pg made.length cl0, .agg (stpL ⟨5, n, z1, z2, z3⟩).toArray] w
      fun v w' => v = .tuple #[raV lim r L.length cap, .int .i64 0, .int .i64 12] ∧ St we ρ (RA (raV lim r L.length cap) lim L :: F) w' := by
  obtain ⟨ah, hae⟩ : ∃ ah, aheadS ⟨5, n, z1, z2, z3⟩ 2 made = ah := ⟨_, rfl⟩
  have hah : ∀ {w : World} {σ : List HP}, St we ρ σ w → _ := fun {w σ} hS => refAhead (w := w) (σ := σ) (s := ⟨5, n, z1, z2, z3⟩) (u := 2) (made := made) (by omega) hS
  simp only [hae] at hah
  rw [hae] at hno
  show Cl _ _ [_, _, _, .agg [Value.int .i64 (5), Value.int .u64 n, Value.int .i64 z1, Value.int .i64 z2, Value.int .i64 z3].toArray] _ _
  cases ah
  · clear hno
    refine Run.calls4 (n := 364) Try.func27 rfl rfl rfl ?_
    repeat' first
      | (apply RO.op; apply OP.callF; rfl; rfl; rfl; show Cl _ 43 _ _ _; exact hah hS; clear hS; rintro v w1 ⟨rfl, hS⟩)
      | refine Run.seq ?_
      | refine Run.region ?_
      | (refine RO.split ?_ ?_ <;> intro hc <;> try (first | (exfalso; omega) | exact absurd rfl hc | exact Bool.noConfusion hc))
      | refine RO.nil ?_
      | refine RO.still (by exact Still.any) hS rfl ?_
      | (apply RO.op; apply OP.box hS; rfl; rfl; rfl; clear hS; intro b w1 hS)
      | (apply RO.op; apply OP.alloc hS; rfl; rfl; rfl; clear hS; intro b w1 hS)
      | (apply RO.op; apply OP.store hS; rfl; rfl; rfl; rfl; rfl; (focus ((repeat (first | apply Has.head | apply Take.head | apply Put.head | apply Has.tail | apply Take.tail | apply Put.tail)); done)); rfl; rfl; clear hS; intro w1 hS)
      | (apply RO.op; apply OP.buildSlice hS; rfl; rfl; (exact eqAuto); rfl; rfl; rfl; rfl; rfl; clear hS; intro b w1 hS)
      | (apply RO.op; apply OP.makeMap hS; rfl; clear hS; intro b w1 hS)
      | refine RO.yes rfl rfl ?_
      | refine RO.no rfl rfl rfl rfl ?_
      | refine RO.noUndef rfl rfl rfl ?_
      | refine RO.noNone rfl rfl rfl ?_
      | refine Run.cond_true rfl ?_
      | refine Run.cond_false rfl ?_
      | refine Run.skip ?_
      | refine Run.block ?_
      | refine Run.inBlock ?_
      | refine Run.exit rfl ?_
    all_goals
      refine Run.ret Try.func27 rfl (.cell rfl (by first | exact run_loadAgg rfl rfl (hS.rd (by exact Rd.any)) (by rfl) (by rfl) | exact run_loadScalar rfl (cell_of (hS.rd (by exact Rd.any)) (by rfl))) (.tmp rfl (.tmp rfl .nil))) ?_
      exact ⟨rfl, hS.picks (by focus ((repeat (first | apply Picks.all | apply Picks.nil | (refine Picks.cons (by repeat (first | apply Take.head | apply Take.tail)) ?_) | apply Picks.drop)); done))⟩
  · simp only [eq_self_iff_true, and_true] at hno
    refine Run.calls4 (n := 364) Try.func27 rfl rfl rfl ?_
    repeat' first
      | (apply RO.op; apply OP.callF; rfl; rfl; rfl; show Cl _ 43 _ _ _; exact hah hS; clear hS; rintro v w1 ⟨rfl, hS⟩)
      | refine Run.seq ?_
      | refine Run.region ?_
      | (refine RO.split ?_ ?_ <;> intro hc <;> try (first | (exfalso; omega) | exact absurd rfl hc | exact Bool.noConfusion hc))
      | refine RO.nil ?_
      | refine RO.still (by exact Still.any) hS rfl ?_
      | (apply RO.op; apply OP.box hS; rfl; rfl; rfl; clear hS; intro b w1 hS)
      | (apply RO.op; apply OP.alloc hS; rfl; rfl; rfl; clear hS; intro b w1 hS)
      | (apply RO.op; apply OP.store hS; rfl; rfl; rfl; rfl; rfl; (focus ((repeat (first | apply Has.head | apply Take.head | apply Put.head | apply Has.tail | apply Take.tail | apply Put.tail)); done)); rfl; rfl; clear hS; intro w1 hS)
      | (apply RO.op; apply OP.buildSlice hS; rfl; rfl; (exact eqAuto); rfl; rfl; rfl; rfl; rfl; clear hS; intro b w1 hS)
      | (apply RO.op; apply OP.makeMap hS; rfl; clear hS; intro b w1 hS)
      | refine RO.yes rfl rfl ?_
      | refine RO.no rfl rfl rfl rfl ?_
      | refine RO.noUndef rfl rfl rfl ?_
      | refine RO.noNone rfl rfl rfl ?_
      | refine Run.cond_true rfl ?_
      | refine Run.cond_false rfl ?_
      | refine Run.skip ?_
      | refine Run.block ?_
      | refine Run.inBlock ?_
      | refine Run.exit rfl ?_
    all_goals
      refine Run.ret Try.func27 rfl (.cell rfl (by first | exact run_loadAgg rfl rfl (hS.rd (by exact Rd.any)) (by rfl) (by rfl) | exact run_loadScalar rfl (cell_of (hS.rd (by exact Rd.any)) (by rfl))) (.tmp rfl (.tmp rfl .nil))) ?_
      exact ⟨rfl, hS.picks (by focus ((repeat (first | apply Picks.all | apply Picks.nil | (refine Picks.cons (by repeat (first | apply Take.head | apply Take.tail)) ?_) | apply Picks.drop)); done))⟩

set_option maxHeartbeats 8000000 in
theorem refNo8 {n z1 z2 z3 : Int} {pg : Option Addr} {ph : Option Addr} {ch : Nat} (hno : ¬ (n = 0 ∧ aheadS ⟨8, n, z1, z2, z3⟩ 2 made = true))
    (hS : St we ρ (RA (raV lim r L.length cap) lim L :: F) w) :
    Cl Try.prog 27 [raV lim r L.length cap, .slice ph heard.length ch, .slice pg made.length cl0, .agg (stpL ⟨8, n, z1, z2, z3⟩).toArray] w
      fun v w' => v = .tuple #[raV lim r L.length cap, .int .i64 0, .int .i64 12] ∧ St we ρ (RA (raV lim r L.length cap) lim L :: F) w' := by
  obtain ⟨ah, hae⟩ : ∃ ah, aheadS ⟨8, n, z1, z2, z3⟩ 2 made = ah := ⟨_, rfl⟩
  have hah : ∀ {w : World} {σ : List HP}, St we ρ σ w → _ := fun {w σ} hS => refAhead (w := w) (σ := σ) (s := ⟨8, n, z1, z2, z3⟩) (u := 2) (made := made) (by omega) hS
  simp only [hae] at hah
  rw [hae] at hno
  show Cl _ _ [_, _, _, .agg [Value.int .i64 (8), Value.int .u64 n, Value.int .i64 z1, Value.int .i64 z2, Value.int .i64 z3].toArray] _ _
  cases ah
  · clear hno
    refine Run.calls4 (n := 364) Try.func27 rfl rfl rfl ?_
    repeat' first
      | (apply RO.op; apply OP.callF; rfl; rfl; rfl; show Cl _ 43 _ _ _; exact hah hS; clear hS; rintro v w1 ⟨rfl, hS⟩)
      | refine Run.seq ?_
      | refine Run.region ?_
      | (refine RO.split ?_ ?_ <;> intro hc <;> try (first | (exfalso; omega) | exact absurd rfl hc | exact Bool.noConfusion hc))
      | refine RO.nil ?_
      | refine RO.still (by exact Still.any) hS rfl ?_
      | (apply RO.op; apply OP.box hS; rfl; rfl; rfl; clear hS; intro b w1 hS)
      | (apply RO.op; apply OP.alloc hS; rfl; rfl; rfl; clear hS; intro b w1 hS)
      | (apply RO.op; apply OP.store hS; rfl; rfl; rfl; rfl; rfl; (focus ((repeat (first | apply Has.head | apply Take.head | apply Put.head | apply Has.tail | apply Take.tail | apply Put.tail)); done)); rfl; rfl; clear hS; intro w1 hS)
      | (apply RO.op; apply OP.buildSlice hS; rfl; rfl; (exact eqAuto); rfl; rfl; rfl; rfl; rfl; clear hS; intro b w1 hS)
      | (apply RO.op; apply OP.makeMap hS; rfl; clear hS; intro b w1 hS)
      | refine RO.yes rfl rfl ?_
      | refine RO.no rfl rfl rfl rfl ?_
      | refine RO.noUndef rfl rfl rfl ?_
      | refine RO.noNone rfl rfl rfl ?_
      | refine Run.cond_true rfl ?_
      | refine Run.cond_false rfl ?_
      | refine Run.skip ?_
      | refine Run.block ?_
      | refine Run.inBlock ?_
      | refine Run.exit rfl ?_
    all_goals
      refine Run.ret Try.func27 rfl (.cell rfl (by first | exact run_loadAgg rfl rfl (hS.rd (by exact Rd.any)) (by rfl) (by rfl) | exact run_loadScalar rfl (cell_of (hS.rd (by exact Rd.any)) (by rfl))) (.tmp rfl (.tmp rfl .nil))) ?_
      exact ⟨rfl, hS.picks (by focus ((repeat (first | apply Picks.all | apply Picks.nil | (refine Picks.cons (by repeat (first | apply Take.head | apply Take.tail)) ?_) | apply Picks.drop)); done))⟩
  · simp only [eq_self_iff_true, and_true] at hno
    refine Run.calls4 (n := 364) Try.func27 rfl rfl rfl ?_
    repeat' first
      | (apply RO.op; apply OP.callF; rfl; rfl; rfl; show Cl _ 43 _ _ _; exact hah hS; clear hS; rintro v w1 ⟨rfl, hS⟩)
      | refine Run.seq ?_
      | refine Run.region ?_
      | (refine RO.split ?_ ?_ <;> intro hc <;> try (first | (exfalso; omega) | exact absurd rfl hc | exact Bool.noConfusion hc))
      | refine RO.nil ?_
      | refine RO.still (by exact Still.any) hS rfl ?_
      | (apply RO.op; apply OP.box hS; rfl; rfl; rfl; clear hS; intro b w1 hS)
      | (apply RO.op; apply OP.alloc hS; rfl; rfl; rfl; clear hS; intro b w1 hS)
      | (apply RO.op; apply OP.store hS; rfl; rfl; rfl; rfl; rfl; (focus ((repeat (first | apply Has.head | apply Take.head | apply Put.head | apply Has.tail | apply Take.tail | apply Put.tail)); done)); rfl; rfl; clear hS; intro w1 hS)
      | (apply RO.op; apply OP.buildSlice hS; rfl; rfl; (exact eqAuto); rfl; rfl; rfl; rfl; rfl; clear hS; intro b w1 hS)
      | (apply RO.op; apply OP.makeMap hS; rfl; clear hS; intro b w1 hS)
      | refine RO.yes rfl rfl ?_
      | refine RO.no rfl rfl rfl rfl ?_
      | refine RO.noUndef rfl rfl rfl ?_
      | refine RO.noNone rfl rfl rfl ?_
      | refine Run.cond_true rfl ?_
      | refine Run.cond_false rfl ?_
      | refine Run.skip ?_
      | refine Run.block ?_
      | refine Run.inBlock ?_
      | refine Run.exit rfl ?_
    all_goals
      refine Run.ret Try.func27 rfl (.cell rfl (by first | exact run_loadAgg rfl rfl (hS.rd (by exact Rd.any)) (by rfl) (by rfl) | exact run_loadScalar rfl (cell_of (hS.rd (by exact Rd.any)) (by rfl))) (.tmp rfl (.tmp rfl .nil))) ?_
      exact ⟨rfl, hS.picks (by focus ((repeat (first | apply Picks.all | apply Picks.nil | (refine Picks.cons (by repeat (first | apply Take.head | apply Take.tail)) ?_) | apply Picks.drop)); done))⟩

set_option maxHeartbeats 8000000 in
theorem refNo6 {n z1 z2 z3 : Int} {pg : Option Addr} {ph : Option Addr} {ch : Nat} (hno : ¬ (1 ≤ n ∧ n ≤ 4 ∧ aheadS ⟨6, n, z1, z2, z3⟩ 2 made = true))
    (hS : St we ρ (RA (raV lim r L.length cap) lim L :: F) w) :
    Cl Try.prog 27 [raV lim r L.length cap, .slice ph heard.length ch, .slice pg made.length cl0, .agg (stpL ⟨6, n, z1, z2, z3⟩).toArray] w
      fun v w' => v = .tuple #[raV lim r L.length cap, .int .i64 0, .int .i64 12] ∧ St we ρ (RA (raV lim r L.length cap) lim L :: F) w' := by
  obtain ⟨ah, hae⟩ : ∃ ah, aheadS ⟨6, n, z1, z2, z3⟩ 2 made = ah := ⟨_, rfl⟩
  have hah : ∀ {w : World} {σ : List HP}, St we ρ σ w → _ := fun {w σ} hS => refAhead (w := w) (σ := σ) (s := ⟨6, n, z1, z2, z3⟩) (u := 2) (made := made) (by omega) hS
  simp only [hae] at hah
  rw [hae] at hno
  show Cl _ _ [_, _, _, .agg [Value.int .i64 (6), Value.int .u64 n, Value.int .i64 z1, Value.int .i64 z2, Value.int .i64 z3].toArray] _ _
  cases ah
  · clear hno
    refine Run.calls4 (n := 364) Try.func27 rfl rfl rfl ?_
    repeat' first
      | (apply RO.op; apply OP.callF; rfl; rfl; rfl; show Cl _ 43 _ _ _; exact hah hS; clear hS; rintro v w1 ⟨rfl, hS⟩)
      | refine Run.seq ?_
      | refine Run.region ?_
      | (refine RO.split ?_ ?_ <;> intro hc <;> try (first | (exfalso; omega) | exact absurd rfl hc | exact Bool.noConfusion hc))
      | refine RO.nil ?_
      | refine RO.still (by exact Still.any) hS rfl ?_
      | (apply RO.op; apply OP.box hS; rfl; rfl; rfl; clear hS; intro b w1 hS)
      | (apply RO.op; apply OP.alloc hS; rfl; rfl; rfl; clear hS; intro b w1 hS)
      | (apply RO.op; apply OP.store hS; rfl; rfl; rfl; rfl; rfl; (focus ((repeat (first | apply Has.head | apply Take.head | apply Put.head | apply Has.tail | apply Take.tail | apply Put.tail)); done)); rfl; rfl; clear hS; intro w1 hS)
      | (apply RO.op; apply OP.buildSlice hS; rfl; rfl; (exact eqAuto); rfl; rfl; rfl; rfl; rfl; clear hS; intro b w1 hS)
      | (apply RO.op; apply OP.makeMap hS; rfl; clear hS; intro b w1 hS)
      | refine RO.yes rfl rfl ?_
      | refine RO.no rfl rfl rfl rfl ?_
      | refine RO.noUndef rfl rfl rfl ?_
      | refine RO.noNone rfl rfl rfl ?_
      | refine Run.cond_true rfl ?_
      | refine Run.cond_false rfl ?_
      | refine Run.skip ?_
      | refine Run.block ?_
      | refine Run.inBlock ?_
      | refine Run.exit rfl ?_
    all_goals
      refine Run.ret Try.func27 rfl (.cell rfl (by first | exact run_loadAgg rfl rfl (hS.rd (by exact Rd.any)) (by rfl) (by rfl) | exact run_loadScalar rfl (cell_of (hS.rd (by exact Rd.any)) (by rfl))) (.tmp rfl (.tmp rfl .nil))) ?_
      exact ⟨rfl, hS.picks (by focus ((repeat (first | apply Picks.all | apply Picks.nil | (refine Picks.cons (by repeat (first | apply Take.head | apply Take.tail)) ?_) | apply Picks.drop)); done))⟩
  · simp only [eq_self_iff_true, and_true] at hno
    refine Run.calls4 (n := 364) Try.func27 rfl rfl rfl ?_
    repeat' first
      | (apply RO.op; apply OP.callF; rfl; rfl; rfl; show Cl _ 43 _ _ _; exact hah hS; clear hS; rintro v w1 ⟨rfl, hS⟩)
      | refine Run.seq ?_
      | refine Run.region ?_
      | (refine RO.split ?_ ?_ <;> intro hc <;> try (first | (exfalso; omega) | exact absurd rfl hc | exact Bool.noConfusion hc))
      | refine RO.nil ?_
      | refine RO.still (by exact Still.any) hS rfl ?_
      | (apply RO.op; apply OP.box hS; rfl; rfl; rfl; clear hS; intro b w1 hS)
      | (apply RO.op; apply OP.alloc hS; rfl; rfl; rfl; clear hS; intro b w1 hS)
      | (apply RO.op; apply OP.store hS; rfl; rfl; rfl; rfl; rfl; (focus ((repeat (first | apply Has.head | apply Take.head | apply Put.head | apply Has.tail | apply Take.tail | apply Put.tail)); done)); rfl; rfl; clear hS; intro w1 hS)
      | (apply RO.op; apply OP.buildSlice hS; rfl; rfl; (exact eqAuto); rfl; rfl; rfl; rfl; rfl; clear hS; intro b w1 hS)
      | (apply RO.op; apply OP.makeMap hS; rfl; clear hS; intro b w1 hS)
      | refine RO.yes rfl rfl ?_
      | refine RO.no rfl rfl rfl rfl ?_
      | refine RO.noUndef rfl rfl rfl ?_
      | refine RO.noNone rfl rfl rfl ?_
      | refine Run.cond_true rfl ?_
      | refine Run.cond_false rfl ?_
      | refine Run.skip ?_
      | refine Run.block ?_
      | refine Run.inBlock ?_
      | refine Run.exit rfl ?_
    all_goals
      refine Run.ret Try.func27 rfl (.cell rfl (by first | exact run_loadAgg rfl rfl (hS.rd (by exact Rd.any)) (by rfl) (by rfl) | exact run_loadScalar rfl (cell_of (hS.rd (by exact Rd.any)) (by rfl))) (.tmp rfl (.tmp rfl .nil))) ?_
      exact ⟨rfl, hS.picks (by focus ((repeat (first | apply Picks.all | apply Picks.nil | (refine Picks.cons (by repeat (first | apply Take.head | apply Take.tail)) ?_) | apply Picks.drop)); done))⟩

set_option maxHeartbeats 8000000 in
theorem refNo7 {n z1 z2 z3 : Int} {pg : Option Addr} {ph : Option Addr} {ch : Nat} (hno : ¬ (aheadS ⟨7, n, z1, z2, z3⟩ 3 made = true))
    (hS : St we ρ (RA (raV lim r L.length cap) lim L :: F) w) :
    Cl Try.prog 27 [raV lim r L.length cap, .slice ph heard.length ch, .slice pg made.length cl0, .agg (stpL ⟨7, n, z1, z2, z3⟩).toArray] w
      fun v w' => v = .tuple #[raV lim r L.length cap, .int .i64 0, .int .i64 12] ∧ St we ρ (RA (raV lim r L.length cap) lim L :: F) w' := by
  obtain ⟨ah, hae⟩ : ∃ ah, aheadS ⟨7, n, z1, z2, z3⟩ 3 made = ah := ⟨_, rfl⟩
  have hah : ∀ {w : World} {σ : List HP}, St we ρ σ w → _ := fun {w σ} hS => refAhead (w := w) (σ := σ) (s := ⟨7, n, z1, z2, z3⟩) (u := 3) (made := made) (by omega) hS
  simp only [hae] at hah
  rw [hae] at hno
  show Cl _ _ [_, _, _, .agg [Value.int .i64 (7), Value.int .u64 n, Value.int .i64 z1, Value.int .i64 z2, Value.int .i64 z3].toArray] _ _
  cases ah
  · clear hno
    refine Run.calls4 (n := 364) Try.func27 rfl rfl rfl ?_
    repeat' first
      | (apply RO.op; apply OP.callF; rfl; rfl; rfl; show Cl _ 43 _ _ _; exact hah hS; clear hS; rintro v w1 ⟨rfl, hS⟩)
      | refine Run.seq ?_
      | refine Run.region ?_
      | (refine RO.split ?_ ?_ <;> intro hc <;> try (first | (exfalso; omega) | exact absurd rfl hc | exact Bool.noConfusion hc))
      | refine RO.nil ?_
      | refine RO.still (by exact Still.any) hS rfl ?_
      | (apply RO.op; apply OP.box hS; rfl; rfl; rfl; clear hS; intro b w1 hS)
      | (apply RO.op; apply OP.alloc hS; rfl; rfl; rfl; clear hS; intro b w1 hS)
      | (apply RO.op; apply OP.store hS; rfl; rfl; rfl; rfl; rfl; (focus ((repeat (first | apply Has.head | apply Take.head | apply Put.head | apply Has.tail | apply Take.tail | apply Put.tail)); done)); rfl; rfl; clear hS; intro w1 hS)
      | (apply RO.op; apply OP.buildSlice hS; rfl; rfl; (exact eqAuto); rfl; rfl; rfl; rfl; rfl; clear hS; intro b w1 hS)
      | (apply RO.op; apply OP.makeMap hS; rfl; clear hS; intro b w1 hS)
      | refine RO.yes rfl rfl ?_
      | refine RO.no rfl rfl rfl rfl ?_
      | refine RO.noUndef rfl rfl rfl ?_
      | refine RO.noNone rfl rfl rfl ?_
      | refine Run.cond_true rfl ?_
      | refine Run.cond_false rfl ?_
      | refine Run.skip ?_
      | refine Run.block ?_
      | refine Run.inBlock ?_
      | refine Run.exit rfl ?_
    all_goals
      refine Run.ret Try.func27 rfl (.cell rfl (by first | exact run_loadAgg rfl rfl (hS.rd (by exact Rd.any)) (by rfl) (by rfl) | exact run_loadScalar rfl (cell_of (hS.rd (by exact Rd.any)) (by rfl))) (.tmp rfl (.tmp rfl .nil))) ?_
      exact ⟨rfl, hS.picks (by focus ((repeat (first | apply Picks.all | apply Picks.nil | (refine Picks.cons (by repeat (first | apply Take.head | apply Take.tail)) ?_) | apply Picks.drop)); done))⟩
  · exact absurd rfl hno

set_option maxHeartbeats 8000000 in
theorem refNo9 {n z1 z2 z3 : Int} {pg : Option Addr} {ph : Option Addr} {ch : Nat} (hno : ¬ (aheadS ⟨9, n, z1, z2, z3⟩ 0 made = true))
    (hS : St we ρ (RA (raV lim r L.length cap) lim L :: F) w) :
    Cl Try.prog 27 [raV lim r L.length cap, .slice ph heard.length ch, .slice pg made.length cl0, .agg (stpL ⟨9, n, z1, z2, z3⟩).toArray] w
      fun v w' => v = .tuple #[raV lim r L.length cap, .int .i64 0, .int .i64 12] ∧ St we ρ (RA (raV lim r L.length cap) lim L :: F) w' := by
  obtain ⟨ah, hae⟩ : ∃ ah, aheadS ⟨9, n, z1, z2, z3⟩ 0 made = ah := ⟨_, rfl⟩
  have hah : ∀ {w : World} {σ : List HP}, St we ρ σ w → _ := fun {w σ} hS => refAhead (w := w) (σ := σ) (s := ⟨9, n, z1, z2, z3⟩) (u := 0) (made := made) (by omega) hS
  simp only [hae] at hah
  rw [hae] at hno
  show Cl _ _ [_, _, _, .agg [Value.int .i64 (9), Value.int .u64 n, Value.int .i64 z1, Value.int .i64 z2, Value.int .i64 z3].toArray] _ _
  cases ah
  · clear hno
    refine Run.calls4 (n := 364) Try.func27 rfl rfl rfl ?_
    repeat' first
      | (apply RO.op; apply OP.callF; rfl; rfl; rfl; show Cl _ 43 _ _ _; exact hah hS; clear hS; rintro v w1 ⟨rfl, hS⟩)
      | refine Run.seq ?_
      | refine Run.region ?_
      | (refine RO.split ?_ ?_ <;> intro hc <;> try (first | (exfalso; omega) | exact absurd rfl hc | exact Bool.noConfusion hc))
      | refine RO.nil ?_
      | refine RO.still (by exact Still.any) hS rfl ?_
      | (apply RO.op; apply OP.box hS; rfl; rfl; rfl; clear hS; intro b w1 hS)
      | (apply RO.op; apply OP.alloc hS; rfl; rfl; rfl; clear hS; intro b w1 hS)
      | (apply RO.op; apply OP.store hS; rfl; rfl; rfl; rfl; rfl; (focus ((repeat (first | apply Has.head | apply Take.head | apply Put.head | apply Has.tail | apply Take.tail | apply Put.tail)); done)); rfl; rfl; clear hS; intro w1 hS)
      | (apply RO.op; apply OP.buildSlice hS; rfl; rfl; (exact eqAuto); rfl; rfl; rfl; rfl; rfl; clear hS; intro b w1 hS)
      | (apply RO.op; apply OP.makeMap hS; rfl; clear hS; intro b w1 hS)
      | refine RO.yes rfl rfl ?_
      | refine RO.no rfl rfl rfl rfl ?_
      | refine RO.noUndef rfl rfl rfl ?_
      | refine RO.noNone rfl rfl rfl ?_
      | refine Run.cond_true rfl ?_
      | refine Run.cond_false rfl ?_
      | refine Run.skip ?_
      | refine Run.block ?_
      | refine Run.inBlock ?_
      | refine Run.exit rfl ?_
    all_goals
      refine Run.ret Try.func27 rfl (.cell rfl (by first | exact run_loadAgg rfl rfl (hS.rd (by exact Rd.any)) (by rfl) (by rfl) | exact run_loadScalar rfl (cell_of (hS.rd (by exact Rd.any)) (by rfl))) (.tmp rfl (.tmp rfl .nil))) ?_
      exact ⟨rfl, hS.picks (by focus ((repeat (first | apply Picks.all | apply Picks.nil | (refine Picks.cons (by repeat (first | apply Take.head | apply Take.tail)) ?_) | apply Picks.drop)); done))⟩
  · exact absurd rfl hno

set_option maxHeartbeats 8000000 in
theorem refNo10 {n z1 z2 z3 : Int} {pg : Option Addr} {ph : Option Addr} {ch : Nat} (hno : ¬ (n = 0 ∧ aheadS ⟨10, n, z1, z2, z3⟩ 1 made = true))
    (hS : St we ρ (RA (raV lim r L.length cap) lim L :: F) w) :
    Cl Try.prog 27 [raV lim r L.length cap, .slice ph heard.length ch, .slice pg made.length cl0, .agg (stpL ⟨10, n, z1, z2, z3⟩).toArray] w
      fun v w' => v = .tuple #[raV lim r L.length cap, .int .i64 0, .int .i64 12] ∧ St we ρ (RA (raV lim r L.length cap) lim L :: F) w' := by
  obtain ⟨ah, hae⟩ : ∃ ah, aheadS ⟨10, n, z1, z2, z3⟩ 1 made = ah := ⟨_, rfl⟩
  have hah : ∀ {w : World} {σ : List HP}, St we ρ σ w → _ := fun {w σ} hS => refAhead (w := w) (σ := σ) (s := ⟨10, n, z1, z2, z3⟩) (u := 1) (made := made) (by omega) hS
  simp only [hae] at hah
  rw [hae] at hno
  show Cl _ _ [_, _, _, .agg [Value.int .i64 (10), Value.int .u64 n, Value.int .i64 z1, Value.int .i64 z2, Value.int .i64 z3].toArray] _ _
  cases ah
  · clear hno
    refine Run.calls4 (n := 364) Try.func27 rfl rfl rfl ?_
    repeat' first
      | (refine Run.regionQ_of hS (by rfl) (by kernel_rfl) ?_; clear hS)
      | (apply RQ.callF; rfl; rfl; rfl; (show ∀ w, _ → Cl _ 43 _ _ _; exact fun w hS => hah hS))
      | (refine RQ.split ?_ ?_ <;> intro hc <;> try (first | (exfalso; omega) | exact absurd rfl hc | exact Bool.noConfusion hc))
      | (refine RQ.nil ?_; (try clear hS); intro w1 hS)
      | refine RQ.still (by exact Still.any) rfl ?_
      | refine RQ.yes rfl rfl ?_
      | refine RQ.no rfl rfl rfl rfl ?_
      | refine RQ.noUndef rfl rfl rfl ?_
      | (apply RO.op; apply OP.callF; rfl; rfl; rfl; show Cl _ 43 _ _ _; exact hah hS; clear hS; rintro v w1 ⟨rfl, hS⟩)
      | refine Run.seq ?_
      | refine Run.region ?_
      | (refine RO.split ?_ ?_ <;> intro hc <;> try (first | (exfalso; omega) | exact absurd rfl hc | exact Bool.noConfusion hc))
      | refine RO.nil ?_
      | refine RO.still (by exact Still.any) hS rfl ?_
      | (apply RO.op; apply OP.box hS; rfl; rfl; rfl; clear hS; intro b w1 hS)
      | (apply RO.op; apply OP.alloc hS; rfl; rfl; rfl; clear hS; intro b w1 hS)
      | (apply RO.op; apply OP.store hS; rfl; rfl; rfl; rfl; rfl; (focus ((repeat (first | apply Has.head | apply Take.head | apply Put.head | apply Has.tail | apply Take.tail | apply Put.tail)); done)); rfl; rfl; clear hS; intro w1 hS)
      | (apply RO.op; apply OP.buildSlice hS; rfl; rfl; (exact eqAuto); rfl; rfl; rfl; rfl; rfl; clear hS; intro b w1 hS)
      | (apply RO.op; apply OP.makeMap hS; rfl; clear hS; intro b w1 hS)
      | refine RO.yes rfl rfl ?_
      | refine RO.no rfl rfl rfl rfl ?_
      | refine RO.noUndef rfl rfl rfl ?_
      | refine RO.noNone rfl rfl rfl ?_
      | refine Run.cond_true rfl ?_
      | refine Run.cond_false rfl ?_
      | refine Run.skip ?_
      | refine Run.block ?_
      | refine Run.inBlock ?_
      | refine Run.exit rfl ?_
    all_goals
      refine Run.ret Try.func27 rfl (.cell rfl (by first | exact run_loadAgg rfl rfl (hS.rd (by exact Rd.any)) (by rfl) (by rfl) | exact run_loadScalar rfl (cell_of (hS.rd (by exact Rd.any)) (by rfl))) (.tmp rfl (.tmp rfl .nil))) ?_
      exact ⟨rfl, hS.picks (by focus ((repeat (first | apply Picks.all | apply Picks.nil | (refine Picks.cons (by repeat (first | apply Take.head | apply Take.tail)) ?_) | apply Picks.drop)); done))⟩
  · simp only [eq_self_iff_true, and_true] at hno
    refine Run.calls4 (n := 364) Try.func27 rfl rfl rfl ?_
    repeat' first
      | (refine Run.regionQ_of hS (by rfl) (by kernel_rfl) ?_; clear hS)
      | (apply RQ.callF; rfl; rfl; rfl; (show ∀ w, _ → Cl _ 43 _ _ _; exact fun w hS => hah hS))
      | (refine RQ.split ?_ ?_ <;> intro hc <;> try (first | (exfalso; omega) | exact absurd rfl hc | exact Bool.noConfusion hc))
      | (refine RQ.nil ?_; (try clear hS); intro w1 hS)
      | refine RQ.still (by exact Still.any) rfl ?_
      | refine RQ.yes rfl rfl ?_
      | refine RQ.no rfl rfl rfl rfl ?_
      | refine RQ.noUndef rfl rfl rfl ?_
      | (apply RO.op; apply OP.callF; rfl; rfl; rfl; show Cl _ 43 _ _ _; exact hah hS; clear hS; rintro v w1 ⟨rfl, hS⟩)
      | refine Run.seq ?_
      | refine Run.region ?_
      | (refine RO.split ?_ ?_ <;> intro hc <;> try (first | (exfalso; omega) | exact absurd rfl hc | exact Bool.noConfusion hc))
      | refine RO.nil ?_
      | refine RO.still (by exact Still.any) hS rfl ?_
      | (apply RO.op; apply OP.box hS; rfl; rfl; rfl; clear hS; intro b w1 hS)
      | (apply RO.op; apply OP.alloc hS; rfl; rfl; rfl; clear hS; intro b w1 hS)
      | (apply RO.op; apply OP.store hS; rfl; rfl; rfl; rfl; rfl; (focus ((repeat (first | apply Has.head | apply Take.head | apply Put.head | apply Has.tail | apply Take.tail | apply Put.tail)); done)); rfl; rfl; clear hS; intro w1 hS)
      | (apply RO.op; apply OP.buildSlice hS; rfl; rfl; (exact eqAuto); rfl; rfl; rfl; rfl; rfl; clear hS; intro b w1 hS)
      | (apply RO.op; apply OP.makeMap hS; rfl; clear hS; intro b w1 hS)
      | refine RO.yes rfl rfl ?_
      | refine RO.no rfl rfl rfl rfl ?_
      | refine RO.noUndef rfl rfl rfl ?_
      | refine RO.noNone rfl rfl rfl ?_
      | refine Run.cond_true rfl ?_
      | refine Run.cond_false rfl ?_
      | refine Run.skip ?_
      | refine Run.block ?_
      | refine Run.inBlock ?_
      | refine Run.exit rfl ?_
    all_goals
      refine Run.ret Try.func27 rfl (.cell rfl (by first | exact run_loadAgg rfl rfl (hS.rd (by exact Rd.any)) (by rfl) (by rfl) | exact run_loadScalar rfl (cell_of (hS.rd (by exact Rd.any)) (by rfl))) (.tmp rfl (.tmp rfl .nil))) ?_
      exact ⟨rfl, hS.picks (by focus ((repeat (first | apply Picks.all | apply Picks.nil | (refine Picks.cons (by repeat (first | apply Take.head | apply Take.tail)) ?_) | apply Picks.drop)); done))⟩

set_option maxHeartbeats 8000000 in
theorem refNo11 {n z1 z2 z3 : Int} {pg : Option Addr} {ph : Option Addr} {ch : Nat} (hno : ¬ (n = 0 ∧ aheadS ⟨11, n, z1, z2, z3⟩ 1 made = true))
    (hS : St we ρ (RA (raV lim r L.length cap) lim L :: F) w) :
    Cl Try.prog 27 [raV lim r L.length cap, .slice ph heard.length ch, .slice pg made.length cl0, .agg (stpL ⟨11, n, z1, z2, z3⟩).toArray] w
      fun v w' => v = .tuple #[raV lim r L.length cap, .int .i64 0, .int .i64 12] ∧ St we ρ (RA (raV lim r L.length cap) lim L :: F) w' := by
  obtain ⟨ah, hae⟩ : ∃ ah, aheadS ⟨11, n, z1, z2, z3⟩ 1 made = ah := ⟨_, rfl⟩
  have hah : ∀ {w : World} {σ : List HP}, St we ρ σ w → _ := fun {w σ} hS => refAhead (w := w) (σ := σ) (s := ⟨11, n, z1, z2, z3⟩) (u := 1) (made := made) (by omega) hS
  simp only [hae] at hah
  rw [hae] at hno
  show Cl _ _ [_, _, _, .agg [Value.int .i64 (11), Value.int .u64 n, Value.int .i64 z1, Value.int .i64 z2, Value.int .i64 z3].toArray] _ _
  cases ah
  · clear hno
    refine Run.calls4 (n := 364) Try.func27 rfl rfl rfl ?_
    repeat' first
      | (refine Run.regionQ_of hS (by rfl) (by kernel_rfl) ?_; clear hS)
      | (apply RQ.callF; rfl; rfl; rfl; (show ∀ w, _ → Cl _ 43 _ _ _; exact fun w hS => hah hS))
      | (refine RQ.split ?_ ?_ <;> intro hc <;> try (first | (exfalso; omega) | exact absurd rfl hc | exact Bool.noConfusion hc))
      | (refine RQ.nil ?_; (try clear hS); intro w1 hS)
      | refine RQ.still (by exact Still.any) rfl ?_
      | refine RQ.yes rfl rfl ?_
      | refine RQ.no rfl rfl rfl rfl ?_
      | refine RQ.noUndef rfl rfl rfl ?_
      | (apply RO.op; apply OP.callF; rfl; rfl; rfl; show Cl _ 43 _ _ _; exact hah hS; clear hS; rintro v w1 ⟨rfl, hS⟩)
      | refine Run.seq ?_
      | refine Run.region ?_
      | (refine RO.split ?_ ?_ <;> intro hc <;> try (first | (exfalso; omega) | exact absurd rfl hc | exact Bool.noConfusion hc))
      | refine RO.nil ?_
      | refine RO.still (by exact Still.any) hS rfl ?_
      | (apply RO.op; apply OP.box hS; rfl; rfl; rfl; clear hS; intro b w1 hS)
      | (apply RO.op; apply OP.alloc hS; rfl; rfl; rfl; clear hS; intro b w1 hS)
      | (apply RO.op; apply OP.store hS; rfl; rfl; rfl; rfl; rfl; (focus ((repeat (first | apply Has.head | apply Take.head | apply Put.head | apply Has.tail | apply Take.tail | apply Put.tail)); done)); rfl; rfl; clear hS; intro w1 hS)
      | (apply RO.op; apply OP.buildSlice hS; rfl; rfl; (exact eqAuto); rfl; rfl; rfl; rfl; rfl; clear hS; intro b w1 hS)
      | (apply RO.op; apply OP.makeMap hS; rfl; clear hS; intro b w1 hS)
      | refine RO.yes rfl rfl ?_
      | refine RO.no rfl rfl rfl rfl ?_
      | refine RO.noUndef rfl rfl rfl ?_
      | refine RO.noNone rfl rfl rfl ?_
      | refine Run.cond_true rfl ?_
      | refine Run.cond_false rfl ?_
      | refine Run.skip ?_
      | refine Run.block ?_
      | refine Run.inBlock ?_
      | refine Run.exit rfl ?_
    all_goals
      refine Run.ret Try.func27 rfl (.cell rfl (by first | exact run_loadAgg rfl rfl (hS.rd (by exact Rd.any)) (by rfl) (by rfl) | exact run_loadScalar rfl (cell_of (hS.rd (by exact Rd.any)) (by rfl))) (.tmp rfl (.tmp rfl .nil))) ?_
      exact ⟨rfl, hS.picks (by focus ((repeat (first | apply Picks.all | apply Picks.nil | (refine Picks.cons (by repeat (first | apply Take.head | apply Take.tail)) ?_) | apply Picks.drop)); done))⟩
  · simp only [eq_self_iff_true, and_true] at hno
    refine Run.calls4 (n := 364) Try.func27 rfl rfl rfl ?_
    repeat' first
      | (refine Run.regionQ_of hS (by rfl) (by kernel_rfl) ?_; clear hS)
      | (apply RQ.callF; rfl; rfl; rfl; (show ∀ w, _ → Cl _ 43 _ _ _; exact fun w hS => hah hS))
      | (refine RQ.split ?_ ?_ <;> intro hc <;> try (first | (exfalso; omega) | exact absurd rfl hc | exact Bool.noConfusion hc))
      | (refine RQ.nil ?_; (try clear hS); intro w1 hS)
      | refine RQ.still (by exact Still.any) rfl ?_
      | refine RQ.yes rfl rfl ?_
      | refine RQ.no rfl rfl rfl rfl ?_
      | refine RQ.noUndef rfl rfl rfl ?_
      | (apply RO.op; apply OP.callF; rfl; rfl; rfl; show Cl _ 43 _ _ _; exact hah hS; clear hS; rintro v w1 ⟨rfl, hS⟩)
      | refine Run.seq ?_
      | refine Run.region ?_
      | (refine RO.split ?_ ?_ <;> intro hc <;> try (first | (exfalso; omega) | exact absurd rfl hc | exact Bool.noConfusion hc))
      | refine RO.nil ?_
      | refine RO.still (by exact Still.any) hS rfl ?_
      | (apply RO.op; apply OP.box hS; rfl; rfl; rfl; clear hS; intro b w1 hS)
      | (apply RO.op; apply OP.alloc hS; rfl; rfl; rfl; clear hS; intro b w1 hS)
      | (apply RO.op; apply OP.store hS; rfl; rfl; rfl; rfl; rfl; (focus ((repeat (first | apply Has.head | apply Take.head | apply Put.head | apply Has.tail | apply Take.tail | apply Put.tail)); done)); rfl; rfl; clear hS; intro w1 hS)
      | (apply RO.op; apply OP.buildSlice hS; rfl; rfl; (exact eqAuto); rfl; rfl; rfl; rfl; rfl; clear hS; intro b w1 hS)
      | (apply RO.op; apply OP.makeMap hS; rfl; clear hS; intro b w1 hS)
      | refine RO.yes rfl rfl ?_
      | refine RO.no rfl rfl rfl rfl ?_
      | refine RO.noUndef rfl rfl rfl ?_
      | refine RO.noNone rfl rfl rfl ?_
      | refine Run.cond_true rfl ?_
      | refine Run.cond_false rfl ?_
      | refine Run.skip ?_
      | refine Run.block ?_
      | refine Run.inBlock ?_
      | refine Run.exit rfl ?_
    all_goals
      refine Run.ret Try.func27 rfl (.cell rfl (by first | exact run_loadAgg rfl rfl (hS.rd (by exact Rd.any)) (by rfl) (by rfl) | exact run_loadScalar rfl (cell_of (hS.rd (by exact Rd.any)) (by rfl))) (.tmp rfl (.tmp rfl .nil))) ?_
      exact ⟨rfl, hS.picks (by focus ((repeat (first | apply Picks.all | apply Picks.nil | (refine Picks.cons (by repeat (first | apply Take.head | apply Take.tail)) ?_) | apply Picks.drop)); done))⟩

set_option maxHeartbeats 8000000 in
theorem refNo12 {n z1 z2 z3 : Int} {pg : Option Addr} {ph : Option Addr} {ch : Nat} (hno : ¬ (n = 0 ∧ aheadS ⟨12, n, z1, z2, z3⟩ 2 made = true))
    (hS : St we ρ (RA (raV lim r L.length cap) lim L :: F) w) :
    Cl Try.prog 27 [raV lim r L.length cap, .slice ph heard.length ch, .slice pg made.length cl0, .agg (stpL ⟨12, n, z1, z2, z3⟩).toArray] w
      fun v w' => v = .tuple #[raV lim r L.length cap, .int .i64 0, .int .i64 12] ∧ St we ρ (RA (raV lim r L.length cap) lim L :: F) w' := by
  obtain ⟨ah, hae⟩ : ∃ ah, aheadS ⟨12, n, z1, z2, z3⟩ 2 made = ah := ⟨_, rfl⟩
  have hah : ∀ {w : World} {σ : List HP}, St we ρ σ w → _ := fun {w σ} hS => refAhead (w := w) (σ := σ) (s := ⟨12, n, z1, z2, z3⟩) (u := 2) (made := made) (by omega) hS
  simp only [hae] at hah
  rw [hae] at hno
  show Cl _ _ [_, _, _, .agg [Value.int .i64 (12), Value.int .u64 n, Value.int .i64 z1, Value.int .i64 z2, Value.int .i64 z3].toArray] _ _
  cases ah
  · clear hno
    refine Run.calls4 (n := 364) Try.func27 rfl rfl rfl ?_
    repeat' first
      | (refine Run.regionQ_of hS (by rfl) (by kernel_rfl) ?_; clear hS)
      | (apply RQ.callF; rfl; rfl; rfl; (show ∀ w, _ → Cl _ 43 _ _ _; exact fun w hS => hah hS))
      | (refine RQ.split ?_ ?_ <;> intro hc <;> try (first | (exfalso; omega) | exact absurd rfl hc | exact Bool.noConfusion hc))
      | (refine RQ.nil ?_; (try clear hS); intro w1 hS)
      | refine RQ.still (by exact Still.any) rfl ?_
      | refine RQ.yes rfl rfl ?_
      | refine RQ.no rfl rfl rfl rfl ?_
      | refine RQ.noUndef rfl rfl rfl ?_
      | (apply RO.op; apply OP.callF; rfl; rfl; rfl; show Cl _ 43 _ _ _; exact hah hS; clear hS; rintro v w1 ⟨rfl, hS⟩)
      | refine Run.seq ?_
      | refine Run.region ?_
      | (refine RO.split ?_ ?_ <;> intro hc <;> try (first | (exfalso; omega) | exact absurd rfl hc | exact Bool.noConfusion hc))
      | refine RO.nil ?_
      | refine RO.still (by exact Still.any) hS rfl ?_
      | (apply RO.op; apply OP.box hS; rfl; rfl; rfl; clear hS; intro b w1 hS)
      | (apply RO.op; apply OP.alloc hS; rfl; rfl; rfl; clear hS; intro b w1 hS)
      | (apply RO.op; apply OP.store hS; rfl; rfl; rfl; rfl; rfl; (focus ((repeat (first | apply Has.head | apply Take.head | apply Put.head | apply Has.tail | apply Take.tail | apply Put.tail)); done)); rfl; rfl; clear hS; intro w1 hS)
      | (apply RO.op; apply OP.buildSlice hS; rfl; rfl; (exact eqAuto); rfl; rfl; rfl; rfl; rfl; clear hS; intro b w1 hS)
      | (apply RO.op; apply OP.makeMap hS; rfl; clear hS; intro b w1 hS)
      | refine RO.yes rfl rfl ?_
      | refine RO.no rfl rfl rfl rfl ?_
      | refine RO.noUndef rfl rfl rfl ?_
      | refine RO.noNone rfl rfl rfl ?_
      | refine Run.cond_true rfl ?_
      | refine Run.cond_false rfl ?_
      | refine Run.skip ?_
      | refine Run.block ?_
      | refine Run.inBlock ?_
      | refine Run.exit rfl ?_
    all_goals
      refine Run.ret Try.func27 rfl (.cell rfl (by first | exact run_loadAgg rfl rfl (hS.rd (by exact Rd.any)) (by rfl) (by rfl) | exact run_loadScalar rfl (cell_of (hS.rd (by exact Rd.any)) (by rfl))) (.tmp rfl (.tmp rfl .nil))) ?_
      exact ⟨rfl, hS.picks (by focus ((repeat (first | apply Picks.all | apply Picks.nil | (refine Picks.cons (by repeat (first | apply Take.head | apply Take.tail)) ?_) | apply Picks.drop)); done))⟩
  · simp only [eq_self_iff_true, and_true] at hno
    refine Run.calls4 (n := 364) Try.func27 rfl rfl rfl ?_
    repeat' first
      | (refine Run.regionQ_of hS (by rfl) (by kernel_rfl) ?_; clear hS)
      | (apply RQ.callF; rfl; rfl; rfl; (show ∀ w, _ → Cl _ 43 _ _ _; exact fun w hS => hah hS))
      | (refine RQ.split ?_ ?_ <;> intro hc <;> try (first | (exfalso; omega) | exact absurd rfl hc | exact Bool.noConfusion hc))
      | (refine RQ.nil ?_; (try clear hS); intro w1 hS)
      | refine RQ.still (by exact Still.any) rfl ?_
      | refine RQ.yes rfl rfl ?_
      | refine RQ.no rfl rfl rfl rfl ?_
      | refine RQ.noUndef rfl rfl rfl ?_
      | (apply RO.op; apply OP.callF; rfl; rfl; rfl; show Cl _ 43 _ _ _; exact hah hS; clear hS; rintro v w1 ⟨rfl, hS⟩)
      | refine Run.seq ?_
      | refine Run.region ?_
      | (refine RO.split ?_ ?_ <;> intro hc <;> try (first | (exfalso; omega) | exact absurd rfl hc | exact Bool.noConfusion hc))
      | refine RO.nil ?_
      | refine RO.still (by exact Still.any) hS rfl ?_
      | (apply RO.op; apply OP.box hS; rfl; rfl; rfl; clear hS; intro b w1 hS)
      | (apply RO.op; apply OP.alloc hS; rfl; rfl; rfl; clear hS; intro b w1 hS)
      | (apply RO.op; apply OP.store hS; rfl; rfl; rfl; rfl; rfl; (focus ((repeat (first | apply Has.head | apply Take.head | apply Put.head | apply Has.tail | apply Take.tail | apply Put.tail)); done)); rfl; rfl; clear hS; intro w1 hS)
      | (apply RO.op; apply OP.buildSlice hS; rfl; rfl; (exact eqAuto); rfl; rfl; rfl; rfl; rfl; clear hS; intro b w1 hS)
      | (apply RO.op; apply OP.makeMap hS; rfl; clear hS; intro b w1 hS)
      | refine RO.yes rfl rfl ?_
      | refine RO.no rfl rfl rfl rfl ?_
      | refine RO.noUndef rfl rfl rfl ?_
      | refine RO.noNone rfl rfl rfl ?_
      | refine Run.cond_true rfl ?_
      | refine Run.cond_false rfl ?_
      | refine Run.skip ?_
      | refine Run.block ?_
      | refine Run.inBlock ?_
      | refine Run.exit rfl ?_
    all_goals
      refine Run.ret Try.func27 rfl (.cell rfl (by first | exact run_loadAgg rfl rfl (hS.rd (by exact Rd.any)) (by rfl) (by rfl) | exact run_loadScalar rfl (cell_of (hS.rd (by exact Rd.any)) (by rfl))) (.tmp rfl (.tmp rfl .nil))) ?_
      exact ⟨rfl, hS.picks (by focus ((repeat (first | apply Picks.all | apply Picks.nil | (refine Picks.cons (by repeat (first | apply Take.head | apply Take.tail)) ?_) | apply Picks.drop)); done))⟩

set_option maxHeartbeats 8000000 in
theorem refNo13 {n z1 z2 z3 : Int} {pg : Option Addr} {ph : Option Addr} {ch : Nat} (hno : ¬ (n = 0 ∧ aheadS ⟨13, n, z1, z2, z3⟩ 0 made = true))
    (hS : St we ρ (RA (raV lim r L.length cap) lim L :: F) w) :
    Cl Try.prog 27 [raV lim r L.length cap, .slice ph heard.length ch, .slice pg made.length cl0, .agg (stpL ⟨13, n, z1, z2, z3⟩).toArray] w
      fun v w' => v = .tuple #[raV lim r L.length cap, .int .i64 0, .int .i64 12] ∧ St we ρ (RA (raV lim r L.length cap) lim L :: F) w' := by
  obtain ⟨ah, hae⟩ : ∃ ah, aheadS ⟨13, n, z1, z2, z3⟩ 0 made = ah := ⟨_, rfl⟩
  have hah : ∀ {w : World} {σ : List HP}, St we ρ σ w → _ := fun {w σ} hS => refAhead (w := w) (σ := σ) (s := ⟨13, n, z1, z2, z3⟩) (u := 0) (made := made) (by omega) hS
  simp only [hae] at hah
  rw [hae] at hno
  show Cl _ _ [_, _, _, .agg [Value.int .i64 (13), Value.int .u64 n, Value.int .i64 z1, Value.int .i64 z2, Value.int .i64 z3].toArray] _ _
  cases ah
  · clear hno
    refine Run.calls4 (n := 364) Try.func27 rfl rfl rfl ?_
    repeat' first
      | (apply RO.op; apply OP.callF; rfl; rfl; rfl; show Cl _ 43 _ _ _; exact hah hS; clear hS; rintro v w1 ⟨rfl, hS⟩)
      | refine Run.seq ?_
      | refine Run.region ?_
      | (refine RO.split ?_ ?_ <;> intro hc <;> try (first | (exfalso; omega) | exact absurd rfl hc | exact Bool.noConfusion hc))
      | refine RO.nil ?_
      | refine RO.still (by exact Still.any) hS rfl ?_
      | (apply RO.op; apply OP.box hS; rfl; rfl; rfl; clear hS; intro b w1 hS)
      | (apply RO.op; apply OP.alloc hS; rfl; rfl; rfl; clear hS; intro b w1 hS)
      | (apply RO.op; apply OP.store hS; rfl; rfl; rfl; rfl; rfl; (focus ((repeat (first | apply Has.head | apply Take.head | apply Put.head | apply Has.tail | apply Take.tail | apply Put.tail)); done)); rfl; rfl; clear hS; intro w1 hS)
      | (apply RO.op; apply OP.buildSlice hS; rfl; rfl; (exact eqAuto); rfl; rfl; rfl; rfl; rfl; clear hS; intro b w1 hS)
      | (apply RO.op; apply OP.makeMap hS; rfl; clear hS; intro b w1 hS)
      | refine RO.yes rfl rfl ?_
      | refine RO.no rfl rfl rfl rfl ?_
      | refine RO.noUndef rfl rfl rfl ?_
      | refine RO.noNone rfl rfl rfl ?_
      | refine Run.cond_true rfl ?_
      | refine Run.cond_false rfl ?_
      | refine Run.skip ?_
      | refine Run.block ?_
      | refine Run.inBlock ?_
      | refine Run.exit rfl ?_
    all_goals
      refine Run.ret Try.func27 rfl (.cell rfl (by first | exact run_loadAgg rfl rfl (hS.rd (by exact Rd.any)) (by rfl) (by rfl) | exact run_loadScalar rfl (cell_of (hS.rd (by exact Rd.any)) (by rfl))) (.tmp rfl (.tmp rfl .nil))) ?_
      exact ⟨rfl, hS.picks (by focus ((repeat (first | apply Picks.all | apply Picks.nil | (refine Picks.cons (by repeat (first | apply Take.head | apply Take.tail)) ?_) | apply Picks.drop)); done))⟩
  · simp only [eq_self_iff_true, and_true] at hno
    refine Run.calls4 (n := 364) Try.func27 rfl rfl rfl ?_
    repeat' first
      | (apply RO.op; apply OP.callF; rfl; rfl; rfl; show Cl _ 43 _ _ _; exact hah hS; clear hS; rintro v w1 ⟨rfl, hS⟩)
      | refine Run.seq ?_
      | refine Run.region ?_
      | (refine RO.split ?_ ?_ <;> intro hc <;> try (first | (exfalso; omega) | exact absurd rfl hc | exact Bool.noConfusion hc))
      | refine RO.nil ?_
      | refine RO.still (by exact Still.any) hS rfl ?_
      | (apply RO.op; apply OP.box hS; rfl; rfl; rfl; clear hS; intro b w1 hS)
      | (apply RO.op; apply OP.alloc hS; rfl; rfl; rfl; clear hS; intro b w1 hS)
      | (apply RO.op; apply OP.store hS; rfl; rfl; rfl; rfl; rfl; (focus ((repeat (first | apply Has.head | apply Take.head | apply Put.head | apply Has.tail | apply Take.tail | apply Put.tail)); done)); rfl; rfl; clear hS; intro w1 hS)
      | (apply RO.op; apply OP.buildSlice hS; rfl; rfl; (exact eqAuto); rfl; rfl; rfl; rfl; rfl; clear hS; intro b w1 hS)
      | (apply RO.op; apply OP.makeMap hS; rfl; clear hS; intro b w1 hS)
      | refine RO.yes rfl rfl ?_
      | refine RO.no rfl rfl rfl rfl ?_
      | refine RO.noUndef rfl rfl rfl ?_
      | refine RO.noNone rfl rfl rfl ?_
      | refine Run.cond_true rfl ?_
      | refine Run.cond_false rfl ?_
      | refine Run.skip ?_
      | refine Run.block ?_
      | refine Run.inBlock ?_
      | refine Run.exit rfl ?_
    all_goals
      refine Run.ret Try.func27 rfl (.cell rfl (by first | exact run_loadAgg rfl rfl (hS.rd (by exact Rd.any)) (by rfl) (by rfl) | exact run_loadScalar rfl (cell_of (hS.rd (by exact Rd.any)) (by rfl))) (.tmp rfl (.tmp rfl .nil))) ?_
      exact ⟨rfl, hS.picks (by focus ((repeat (first | apply Picks.all | apply Picks.nil | (refine Picks.cons (by repeat (first | apply Take.head | apply Take.tail)) ?_) | apply Picks.drop)); done))⟩

set_option maxHeartbeats 8000000 in
theorem refNoOp {op n z1 z2 z3 : Int} {pg : Option Addr} {ph : Option Addr} {ch : Nat} (hno : ¬ (0 ≤ op ∧ op ≤ 13 ∧ op ≠ 4))
    (hS : St we ρ (RA (raV lim r L.length cap) lim L :: F) w) :
    Cl Try.prog 27 [raV lim r L.length cap, .slice ph heard.length ch, .slice pg made.length cl0, .agg (stpL ⟨op, n, z1, z2, z3⟩).toArray] w
      fun v w' => v = .tuple #[raV lim r L.length cap, .int .i64 0, .int .i64 12] ∧ St we ρ (RA (raV lim r L.length cap) lim L :: F) w' := by
  show Cl _ _ [_, _, _, .agg [Value.int .i64 (op), Value.int .u64 n, Value.int .i64 z1, Value.int .i64 z2, Value.int .i64 z3].toArray] _ _
  refine Run.calls4 (n := 364) Try.func27 rfl rfl rfl ?_
  repeat' first
    | refine Run.seq ?_
    | refine Run.region ?_
    | (refine RO.split ?_ ?_ <;> intro hc <;> try (first | (exfalso; omega) | exact absurd rfl hc | exact Bool.noConfusion hc))
    | refine RO.nil ?_
    | refine RO.still (by exact Still.any) hS rfl ?_
    | (apply RO.op; apply OP.box hS; rfl; rfl; rfl; clear hS; intro b w1 hS)
    | (apply RO.op; apply OP.alloc hS; rfl; rfl; rfl; clear hS; intro b w1 hS)
    | (apply RO.op; apply OP.store hS; rfl; rfl; rfl; rfl; rfl; (focus ((repeat (first | apply Has.head | apply Take.head | apply Put.head | apply Has.tail | apply Take.tail | apply Put.tail)); done)); rfl; rfl; clear hS; intro w1 hS)
    | (apply RO.op; apply OP.buildSlice hS; rfl; rfl; (exact eqAuto); rfl; rfl; rfl; rfl; rfl; clear hS; intro b w1 hS)
    | (apply RO.op; apply OP.makeMap hS; rfl; clear hS; intro b w1 hS)
    | refine RO.yes rfl rfl ?_
    | refine RO.no rfl rfl rfl rfl ?_
    | refine RO.noUndef rfl rfl rfl ?_
    | refine RO.noNone rfl rfl rfl ?_
    | refine Run.cond_true rfl ?_
    | refine Run.cond_false rfl ?_
    | refine Run.skip ?_
    | refine Run.block ?_
    | refine Run.inBlock ?_
    | refine Run.exit rfl ?_
  all_goals
    refine Run.ret Try.func27 rfl (.cell rfl (by first | exact run_loadAgg rfl rfl (hS.rd (by exact Rd.any)) (by rfl) (by rfl) | exact run_loadScalar rfl (cell_of (hS.rd (by exact Rd.any)) (by rfl))) (.tmp rfl (.tmp rfl .nil))) ?_
    exact ⟨rfl, hS.picks (by focus ((repeat (first | apply Picks.all | apply Picks.nil | (refine Picks.cons (by repeat (first | apply Take.head | apply Take.tail)) ?_) | apply Picks.drop)); done))⟩
end

/-! Recipe12 -/

section
variable {we w : World} {ρ : List (Nat × Obj)} {σ F : List HP} {lim g cl0 r cap : Nat} {L : List Nd} {made heard : List Int} {hv : Value} {cells : List Value} {a : Value}

/-- What a step of the document gives. -/
def OneGives (we : World) (ρ : List (Nat × Obj)) (F : List HP) (lim r cap : Nat) (q : List Nd × Int × Int) (v : Value) (w' : World) : Prop :=
  ∃ r' c', v = .tuple #[raV lim r' q.1.length c', .int .i64 q.2.1, .int .i64 q.2.2] ∧ (q.2.2 ≠ 0 → r' = r ∧ c' = cap) ∧ St we ρ (RA (raV lim r' q.1.length c') lim q.1 :: F) w'
theorem gives_still {x e : Int} {v : Value} {w' : World} (h : v = .tuple #[raV lim r L.length cap, .int .i64 x, .int .i64 e] ∧ St we ρ (RA (raV lim r L.length cap) lim L :: F) w') : OneGives we ρ F lim r cap (L, x, e) v w' :=
  ⟨r, cap, h.1, fun _ => ⟨rfl, rfl⟩, h.2⟩
theorem ahd_at {x : Int} (h : ahd made x = true) : ∃ i : Nat, x = i ∧ ∃ hi : i < made.length, mde made x = made[i] := by
  obtain ⟨h2, e⟩ := mde_get h
  have := ahd_iff.1 h
  exact ⟨x.toNat, by omega, h2, e⟩
/-- made's cells can be read. -/
def ReadsMade (ρ : List (Nat × Obj)) (F : List HP) (pg : Option Addr) (made : List Int) : Prop :=
  0 < made.length → ∃ g cells, pg = some ⟨g, 0, none⟩ ∧ Rd ρ F g (.cells (cells : List Value).toArray 3 (0, 0)) ∧ ∀ (i : Nat) (h : i < made.length), cells[i]? = some (.int .i64 made[i])

set_option maxHeartbeats 4000000 in
theorem refOne {s : Stp} {pg : Option Addr} (hs : Sl ρ intL 1 hv heard) (hn0 : 0 ≤ s.n) (hmh : AllHas L made) (hrd : ReadsMade ρ F pg made)
    (hS : St we ρ (RA (raV lim r L.length cap) lim L :: F) w) :
    Cl Try.prog 27 [raV lim r L.length cap, hv, .slice pg made.length cl0, .agg (stpL s).toArray] w (OneGives we ρ F lim r cap (oneS lim L heard made s)) := by
  obtain ⟨op, n, a, b, c⟩ := s
  obtain ⟨ph, ch, rfl, -⟩ := hs.val
  simp only at hn0
  by_cases hop : 0 ≤ op ∧ op ≤ 13 ∧ op ≠ 4
  rotate_left
  · have e : oneS lim L heard made ⟨op, n, a, b, c⟩ = (L, 0, 12) := by
      unfold oneS
      rw [if_neg (show ¬ op = 0 by omega), if_neg (show ¬ op = 1 by omega), if_neg (show ¬ op = 2 by omega), if_neg (show ¬ op = 3 by omega), if_neg (show ¬ (op = 5 ∨ op = 8) by omega), if_neg (show ¬ op = 6 by omega), if_neg (show ¬ op = 7 by omega), if_neg (show ¬ op = 9 by omega), if_neg (show ¬ (op = 10 ∨ op = 11) by omega), if_neg (show ¬ op = 12 by omega), if_neg (show ¬ op = 13 by omega)]
    rw [e]
    exact (refNoOp hop hS).mono fun v w' h => gives_still h
  have hcases : op = 0 ∨ op = 1 ∨ op = 2 ∨ op = 3 ∨ op = 5 ∨ op = 6 ∨ op = 7 ∨ op = 8 ∨ op = 9 ∨ op = 10 ∨ op = 11 ∨ op = 12 ∨ op = 13 := by omega
  clear hop
  rcases hcases with rfl | rfl | rfl | rfl | rfl | rfl | rfl | rfl | rfl | rfl | rfl | rfl | rfl
  · by_cases hc : n = 0 ∧ b = 0 ∧ c = 0 ∧ 0 ≤ a ∧ a < heard.length
    · obtain ⟨rfl, rfl, rfl, h1, h2⟩ := hc
      obtain ⟨m, rfl⟩ : ∃ m : Nat, a = m := ⟨a.toNat, by omega⟩
      have hm : m < heard.length := by omega
      have e : oneS lim L heard made ⟨0, 0, m, 0, 0⟩ = (L, heard[m], 0) := by
        rw [one_heard_yes (by simp [RightP]) rfl ⟨by simp, by simpa using hm⟩]
        simp [mde, List.getD, List.getElem?_eq_getElem hm]
      rw [e]
      exact (refOne0 hs hm hS).mono fun v w' h => gives_still h
    · have e : oneS lim L heard made ⟨0, n, a, b, c⟩ = (L, 0, 12) := by simp only [oneS]; first | (rw [if_pos rfl, if_neg hc]) | simp [hc]
      rw [e]
      exact (refNo0 hc hS).mono fun v w' h => gives_still h
  · by_cases hc : n < 1048576 ∧ aheadS ⟨1, n, a, b, c⟩ 0 made = true
    · obtain ⟨hn, ha⟩ := hc
      have e : oneS lim L heard made ⟨1, n, a, b, c⟩ = mk lim L ⟨1, 4294967296 + n, 0, 0, 0⟩ := by simp [oneS, hn, ha]
      rw [e]
      exact refOne1 hn0 hn ha hS
    · have e : oneS lim L heard made ⟨1, n, a, b, c⟩ = (L, 0, 12) := by simp only [oneS]; first | (rw [if_pos rfl, if_neg hc]) | simp [hc]
      rw [e]
      exact (refNo1 hc hS).mono fun v w' h => gives_still h
  · by_cases hc : n = 0 ∧ aheadS ⟨2, n, a, b, c⟩ 1 made = true
    · obtain ⟨rfl, ha⟩ := hc
      have e : oneS lim L heard made ⟨2, 0, a, b, c⟩ = mk lim L ⟨2, 0, mde made a, 0, 0⟩ := by simp [oneS, ha]
      rw [e]
      obtain ⟨i, rfl, hi, ei⟩ := ahd_at (ahead_a ha (by omega))
      obtain ⟨g, cells, rfl, hl, hcell⟩ := hrd (by omega)
      rw [ei]
      exact refOne2 ha hi (hcell i hi) hl hS
    · have e : oneS lim L heard made ⟨2, n, a, b, c⟩ = (L, 0, 12) := by simp only [oneS]; first | (rw [if_pos rfl, if_neg hc]) | simp [hc]
      rw [e]
      exact (refNo2 hc hS).mono fun v w' h => gives_still h
  · by_cases hc : n = 0 ∧ aheadS ⟨3, n, a, b, c⟩ 2 made = true
    · obtain ⟨rfl, ha⟩ := hc
      have e : oneS lim L heard made ⟨3, 0, a, b, c⟩ = share lim L (mde made a) (mde made b) := by simp [oneS, ha]
      rw [e]
      obtain ⟨i, rfl, hi, ei⟩ := ahd_at (ahead_a ha (by omega))
      obtain ⟨j, rfl, hj, ej⟩ := ahd_at (ahead_b ha (by omega))
      obtain ⟨g, cells, rfl, hl, hcell⟩ := hrd (by omega)
      rw [ei, ej]
      exact refOne3 ha hi (hcell i hi) hj (hcell j hj) hl hS
    · have e : oneS lim L heard made ⟨3, n, a, b, c⟩ = (L, 0, 12) := by simp only [oneS]; first | (rw [if_pos rfl, if_neg hc]) | simp [hc]
      rw [e]
      exact (refNo3 hc hS).mono fun v w' h => gives_still h
  · by_cases hc : n = 0 ∧ aheadS ⟨5, n, a, b, c⟩ 2 made = true
    · obtain ⟨rfl, ha⟩ := hc
      have e : oneS lim L heard made ⟨5, 0, a, b, c⟩ = mk lim L ⟨5, 0, mde made a, mde made b, 0⟩ := by simp [oneS, ha]
      rw [e]
      obtain ⟨i, rfl, hi, ei⟩ := ahd_at (ahead_a ha (by omega))
      obtain ⟨j, rfl, hj, ej⟩ := ahd_at (ahead_b ha (by omega))
      obtain ⟨g, cells, rfl, hl, hcell⟩ := hrd (by omega)
      rw [ei, ej]
      exact refOne5 ha hi (hcell i hi) hj (hcell j hj) hl hS
    · have e : oneS lim L heard made ⟨5, n, a, b, c⟩ = (L, 0, 12) := by simp only [oneS]; first | (rw [if_pos rfl, if_neg hc]) | simp [hc]
      rw [e]
      exact (refNo5 hc hS).mono fun v w' h => gives_still h
  · by_cases hc : 1 ≤ n ∧ n ≤ 4 ∧ aheadS ⟨6, n, a, b, c⟩ 2 made = true
    · obtain ⟨h1, h4, ha⟩ := hc
      have e : oneS lim L heard made ⟨6, n, a, b, c⟩ = mk lim L ⟨6, n, mde made a, mde made b, 0⟩ := by simp [oneS, h1, h4, ha]
      rw [e]
      obtain ⟨i, rfl, hi, ei⟩ := ahd_at (ahead_a ha (by omega))
      obtain ⟨j, rfl, hj, ej⟩ := ahd_at (ahead_b ha (by omega))
      obtain ⟨g, cells, rfl, hl, hcell⟩ := hrd (by omega)
      rw [ei, ej]
      exact refOne6 h1 h4 ha hi (hcell i hi) hj (hcell j hj) hl hS
    · have e : oneS lim L heard made ⟨6, n, a, b, c⟩ = (L, 0, 12) := by simp only [oneS]; first | (rw [if_pos rfl, if_neg hc]) | simp [hc]
      rw [e]
      exact (refNo6 hc hS).mono fun v w' h => gives_still h
  · by_cases hc : aheadS ⟨7, n, a, b, c⟩ 3 made = true
    · have ha := hc
      have e : oneS lim L heard made ⟨7, n, a, b, c⟩ = mk lim L ⟨7, n, mde made a, mde made b, mde made c⟩ := by simp [oneS, ha]
      rw [e]
      obtain ⟨i, rfl, hi, ei⟩ := ahd_at (ahead_a ha (by omega))
      obtain ⟨j, rfl, hj, ej⟩ := ahd_at (ahead_b ha (by omega))
      obtain ⟨k, rfl, hk, ek⟩ := ahd_at (ahead_c ha (by omega))
      obtain ⟨g, cells, rfl, hl, hcell⟩ := hrd (by omega)
      rw [ei, ej, ek]
      exact refOne7 ha hi (hcell i hi) hj (hcell j hj) hk (hcell k hk) hl hS
    · have e : oneS lim L heard made ⟨7, n, a, b, c⟩ = (L, 0, 12) := by simp only [oneS]; first | (rw [if_pos rfl, if_neg hc]) | simp [hc]
      rw [e]
      exact (refNo7 hc hS).mono fun v w' h => gives_still h
  · by_cases hc : n = 0 ∧ aheadS ⟨8, n, a, b, c⟩ 2 made = true
    · obtain ⟨rfl, ha⟩ := hc
      have e : oneS lim L heard made ⟨8, 0, a, b, c⟩ = mk lim L ⟨8, 0, mde made a, mde made b, 0⟩ := by simp [oneS, ha]
      rw [e]
      obtain ⟨i, rfl, hi, ei⟩ := ahd_at (ahead_a ha (by omega))
      obtain ⟨j, rfl, hj, ej⟩ := ahd_at (ahead_b ha (by omega))
      obtain ⟨g, cells, rfl, hl, hcell⟩ := hrd (by omega)
      rw [ei, ej]
      exact refOne8 ha hi (hcell i hi) hj (hcell j hj) hl hS
    · have e : oneS lim L heard made ⟨8, n, a, b, c⟩ = (L, 0, 12) := by simp only [oneS]; first | (rw [if_pos rfl, if_neg hc]) | simp [hc]
      rw [e]
      exact (refNo8 hc hS).mono fun v w' h => gives_still h
  · by_cases hc : aheadS ⟨9, n, a, b, c⟩ 0 made = true
    · have ha := hc
      have e : oneS lim L heard made ⟨9, n, a, b, c⟩ = mk lim L ⟨9, n, 0, 0, 0⟩ := by simp [oneS, ha]
      rw [e]
      exact refOne9 ha hS
    · have e : oneS lim L heard made ⟨9, n, a, b, c⟩ = (L, 0, 12) := by simp only [oneS]; first | (rw [if_pos rfl, if_neg hc]) | simp [hc]
      rw [e]
      exact (refNo9 hc hS).mono fun v w' h => gives_still h
  · by_cases hc : n = 0 ∧ aheadS ⟨10, n, a, b, c⟩ 1 made = true
    · obtain ⟨rfl, ha⟩ := hc
      have e : oneS lim L heard made ⟨10, 0, a, b, c⟩ = (L, takenV L 10 (mde made a) (mde made b)) := by simp [oneS, ha, takenOf, takenV]
      rw [e]
      obtain ⟨i, rfl, hi, ei⟩ := ahd_at (ahead_a ha (by omega))
      obtain ⟨g, cells, rfl, hl, hcell⟩ := hrd (by omega)
      have hx := allHas_mde hmh (ahead_a ha (by omega))
      have hcl := hcell i hi
      simp only [ei] at hx ⊢
      generalize made[i] = x at hx hcl ⊢
      obtain ⟨q, rfl, _⟩ := has_nat hx
      exact (refOne10 (y := mde made b) ha hi hl hcl hx hS).mono fun v w' h => gives_still h
    · have e : oneS lim L heard made ⟨10, n, a, b, c⟩ = (L, 0, 12) := by simp only [oneS]; first | (rw [if_pos rfl, if_neg hc]) | simp [hc]
      rw [e]
      exact (refNo10 hc hS).mono fun v w' h => gives_still h
  · by_cases hc : n = 0 ∧ aheadS ⟨11, n, a, b, c⟩ 1 made = true
    · obtain ⟨rfl, ha⟩ := hc
      have e : oneS lim L heard made ⟨11, 0, a, b, c⟩ = (L, takenV L 11 (mde made a) (mde made b)) := by simp [oneS, ha, takenOf, takenV]
      rw [e]
      obtain ⟨i, rfl, hi, ei⟩ := ahd_at (ahead_a ha (by omega))
      obtain ⟨g, cells, rfl, hl, hcell⟩ := hrd (by omega)
      have hx := allHas_mde hmh (ahead_a ha (by omega))
      have hcl := hcell i hi
      simp only [ei] at hx ⊢
      generalize made[i] = x at hx hcl ⊢
      obtain ⟨q, rfl, _⟩ := has_nat hx
      exact (refOne11 (y := mde made b) ha hi hl hcl hx hS).mono fun v w' h => gives_still h
    · have e : oneS lim L heard made ⟨11, n, a, b, c⟩ = (L, 0, 12) := by simp only [oneS]; first | (rw [if_pos rfl, if_neg hc]) | simp [hc]
      rw [e]
      exact (refNo11 hc hS).mono fun v w' h => gives_still h
  · by_cases hc : n = 0 ∧ aheadS ⟨12, n, a, b, c⟩ 2 made = true
    · obtain ⟨rfl, ha⟩ := hc
      have e : oneS lim L heard made ⟨12, 0, a, b, c⟩ = (L, takenV L 12 (mde made a) (mde made b)) := by simp [oneS, ha, takenOf, takenV]
      rw [e]
      obtain ⟨i, rfl, hi, ei⟩ := ahd_at (ahead_a ha (by omega))
      obtain ⟨j, rfl, hj, ej⟩ := ahd_at (ahead_b ha (by omega))
      obtain ⟨g, cells, rfl, hl, hcell⟩ := hrd (by omega)
      have hx := allHas_mde hmh (ahead_a ha (by omega))
      have hcl := hcell i hi
      simp only [ei] at hx ⊢
      generalize made[i] = x at hx hcl ⊢
      obtain ⟨q, rfl, _⟩ := has_nat hx
      rw [ej]
      exact (refOne12 ha hi hj hl hcl (hcell j hj) hx hS).mono fun v w' h => gives_still h
    · have e : oneS lim L heard made ⟨12, n, a, b, c⟩ = (L, 0, 12) := by simp only [oneS]; first | (rw [if_pos rfl, if_neg hc]) | simp [hc]
      rw [e]
      exact (refNo12 hc hS).mono fun v w' h => gives_still h
  · by_cases hc : n = 0 ∧ aheadS ⟨13, n, a, b, c⟩ 0 made = true
    · obtain ⟨rfl, ha⟩ := hc
      have e : oneS lim L heard made ⟨13, 0, a, b, c⟩ = (L, 0, 0) := by simp [oneS, ha]
      rw [e]
      exact (refOne13 ha hS).mono fun v w' h => gives_still h
    · have e : oneS lim L heard made ⟨13, n, a, b, c⟩ = (L, 0, 12) := by simp only [oneS]; first | (rw [if_pos rfl, if_neg hc]) | simp [hc]
      rw [e]
      exact (refNo13 hc hS).mono fun v w' h => gives_still h
end

/-! Recipe13 -/

section
variable {we w : World} {ρ : List (Nat × Obj)} {σ F : List HP} {v : Value}

set_option maxHeartbeats 4000000 in
theorem rof_calls {st : List Stp} (hs : Sl ρ stpL 5 v st) (hl : st.length ≤ 1000) (hS : St we ρ σ w) :
    Cl Try.prog 17 [v] w fun v w' => St we ρ (Vec 77 5 v st.length (st.flatMap stpL) :: σ) w' := by
  obtain ⟨p1, c1, rfl, k1, k2, hrow⟩ := hs.val
  refine Run.calls1 (n := 28) Try.func17 rfl rfl rfl ?_
  repeat' first
    | refine Run.seq ?_
    | refine Run.region ?_
    | (refine RO.split ?_ ?_ <;> intro hc <;> try (first | (exfalso; omega) | exact absurd rfl hc | exact Bool.noConfusion hc))
    | refine RO.nil ?_
    | refine RO.still (by exact Still.any) hS rfl ?_
    | (apply RO.op; apply OP.box hS; rfl; rfl; rfl; clear hS; intro b w1 hS)
    | (apply RO.op; apply OP.alloc hS; rfl; rfl; rfl; clear hS; intro b w1 hS)
    | (apply RO.op; apply OP.store hS; rfl; rfl; rfl; rfl; rfl; (focus ((repeat (first | apply Has.head | apply Take.head | apply Put.head | apply Has.tail | apply Take.tail | apply Put.tail)); done)); rfl; rfl; clear hS; intro w1 hS)
    | (apply RO.op; apply OP.buildSlice hS; rfl; rfl; (exact eqAuto); rfl; rfl; rfl; rfl; rfl; clear hS; intro b w1 hS)
    | (apply RO.op; apply OP.makeMap hS; rfl; clear hS; intro b w1 hS)
    | refine RO.yes rfl rfl ?_
    | refine RO.no rfl rfl rfl rfl ?_
    | refine RO.noUndef rfl rfl rfl ?_
    | refine RO.noNone rfl rfl rfl ?_
    | refine Run.cond_true rfl ?_
    | refine Run.cond_false rfl ?_
    | refine Run.skip ?_
    | refine Run.block ?_
    | refine Run.inBlock ?_
    | refine Run.exit rfl ?_
  refine Run.while (fun q : Nat × Value => [(3, q.2), (6, .slice p1 st.length c1), (7, .int .i64 st.length), (8, .int .i64 q.1)])
    (fun q w => q.1 ≤ st.length ∧ St we ρ (Vec 77 5 q.2 q.1 ((st.take q.1).flatMap stpL) :: σ) w) (fun q => st.length - q.1) (0, .slice none 0 0)
    ⟨by simp, vec_nil hS⟩ (by focus ((repeat (first | exact .nil | refine .cons rfl ?_)); done)) ?_
  clear hS
  rintro ⟨i, mv⟩ w ⟨hi, hS⟩ ih
  simp only at hi hS ih ⊢
  by_cases hlt : i < st.length
  · obtain ⟨bb, off, cs, el, fr, rfl, hmem, hnd⟩ := hrow (by omega)
    have hni := hnd i hlt
    have e2 : (st.take (i + 1)).flatMap stpL = (st.take i).flatMap stpL ++ stpL st[i] := by
      rw [List.take_succ_eq_append_getElem hlt, List.flatMap_append]; simp
    generalize st[i] = s at hni e2
    obtain ⟨op, n, z1, z2, z3⟩ := s
    have hni2 : (cs.drop (off + i * 5)).take 5 = [.int .i64 op, .int .u64 n, .int .i64 z1, .int .i64 z2, .int .i64 z3] := hni
    have e3 : (st.take (i + 1)).flatMap stpL = (st.take i).flatMap stpL ++ [.int .i64 op, .int .u64 n, .int .i64 z1, .int .i64 z2, .int .i64 z3] := e2
    clear hni e2
    repeat' first
      | (refine RO.still (by apply Still.loadAgg; rfl; rfl; (exact eqAuto); exact Rd.ro hmem; exact hni2; rfl) hS rfl ?_)
      | (apply RO.op; apply OP.append (size := 5) (bytes := 40) (k := 1) (news := [.int .i64 op, .int .u64 n, .int .i64 z1, .int .i64 z2, .int .i64 z3]) hS; rfl; rfl; rfl; rfl; rfl; rfl; rfl; rfl; exact (by omega); (focus ((repeat (first | apply Has.head | apply Take.head | apply Put.head | apply Has.tail | apply Take.tail | apply Put.tail)); done)); (exact Rd.any); rfl; rfl; exact (by intro v hv; simp at hv; rcases hv with rfl | rfl | rfl | rfl | rfl <;> rfl); (exact (by unfold maxLen; omega)); (exact (by omega)); rfl
         clear hS; intro v2 w1 hS; rw [← e3] at hS)
      | refine Run.seq ?_
      | refine Run.region ?_
      | (refine RO.split ?_ ?_ <;> intro hc <;> try (first | (exfalso; omega) | exact absurd rfl hc | exact Bool.noConfusion hc))
      | refine RO.nil ?_
      | refine RO.still (by exact Still.any) hS rfl ?_
      | (apply RO.op; apply OP.box hS; rfl; rfl; rfl; clear hS; intro b w1 hS)
      | (apply RO.op; apply OP.alloc hS; rfl; rfl; rfl; clear hS; intro b w1 hS)
      | (apply RO.op; apply OP.store hS; rfl; rfl; rfl; rfl; rfl; (focus ((repeat (first | apply Has.head | apply Take.head | apply Put.head | apply Has.tail | apply Take.tail | apply Put.tail)); done)); rfl; rfl; clear hS; intro w1 hS)
      | (apply RO.op; apply OP.buildSlice hS; rfl; rfl; (exact eqAuto); rfl; rfl; rfl; rfl; rfl; clear hS; intro b w1 hS)
      | (apply RO.op; apply OP.makeMap hS; rfl; clear hS; intro b w1 hS)
      | refine RO.yes rfl rfl ?_
      | refine RO.no rfl rfl rfl rfl ?_
      | refine RO.noUndef rfl rfl rfl ?_
      | refine RO.noNone rfl rfl rfl ?_
      | refine Run.cond_true rfl ?_
      | refine Run.cond_false rfl ?_
      | refine Run.skip ?_
      | refine Run.block ?_
      | refine Run.inBlock ?_
      | refine Run.exit rfl ?_
    refine Run.weaken (by focus ((repeat (first | exact .nil | refine .cons rfl ?_)); done)) (ih (i + 1, v2) _ ⟨by simp; omega, hS.picks (by focus ((repeat (first | apply Picks.all | apply Picks.nil | (refine Picks.cons (by repeat (first | apply Take.head | apply Take.tail)) ?_) | apply Picks.drop)); done))⟩ (by simp; omega))
  · obtain rfl : i = st.length := by omega
    rw [List.take_length] at hS
    repeat' first
      | refine Run.seq ?_
      | refine Run.region ?_
      | (refine RO.split ?_ ?_ <;> intro hc <;> try (first | (exfalso; omega) | exact absurd rfl hc | exact Bool.noConfusion hc))
      | refine RO.nil ?_
      | refine RO.still (by exact Still.any) hS rfl ?_
      | (apply RO.op; apply OP.box hS; rfl; rfl; rfl; clear hS; intro b w1 hS)
      | (apply RO.op; apply OP.alloc hS; rfl; rfl; rfl; clear hS; intro b w1 hS)
      | (apply RO.op; apply OP.store hS; rfl; rfl; rfl; rfl; rfl; (focus ((repeat (first | apply Has.head | apply Take.head | apply Put.head | apply Has.tail | apply Take.tail | apply Put.tail)); done)); rfl; rfl; clear hS; intro w1 hS)
      | (apply RO.op; apply OP.buildSlice hS; rfl; rfl; (exact eqAuto); rfl; rfl; rfl; rfl; rfl; clear hS; intro b w1 hS)
      | (apply RO.op; apply OP.makeMap hS; rfl; clear hS; intro b w1 hS)
      | refine RO.yes rfl rfl ?_
      | refine RO.no rfl rfl rfl rfl ?_
      | refine RO.noUndef rfl rfl rfl ?_
      | refine RO.noNone rfl rfl rfl ?_
      | refine Run.cond_true rfl ?_
      | refine Run.cond_false rfl ?_
      | refine Run.skip ?_
      | refine Run.block ?_
      | refine Run.inBlock ?_
      | refine Run.exit rfl ?_
    refine Run.ret Try.func17 rfl (.tmp rfl .nil) ?_
    exact hS.picks (by focus ((repeat (first | apply Picks.all | apply Picks.nil | (refine Picks.cons (by repeat (first | apply Take.head | apply Take.tail)) ?_) | apply Picks.drop)); done))
end

/-! Recipe14 -/

section
variable {we w : World} {ρ : List (Nat × Obj)} {σ F : List HP} {lim r cap : Nat} {L : List Nd} {made heard : List Int} {hv v mv : Value}

theorem refOneV {s : Stp} (hs : Sl ρ intL 1 hv heard) (hn0 : 0 ≤ s.n) (hmh : AllHas L made)
    (hS : St we ρ (RA (raV lim r L.length cap) lim L :: Vec 3 1 mv made.length (made.flatMap intL) :: F) w) :
    Cl Try.prog 27 [raV lim r L.length cap, hv, mv, .agg (stpL s).toArray] w (OneGives we ρ (Vec 3 1 mv made.length (made.flatMap intL) :: F) lim r cap (oneS lim L heard made s)) := by
  obtain ⟨hl, ⟨rfl, h0, _, hT⟩ | ⟨g, cap1, sp, rfl, k1, k2, k3, hT⟩⟩ := vec_open (hS.take (.tail .head))
  · have hm : made = [] := List.eq_nil_of_length_eq_zero h0
    subst hm
    exact (refOne (made := []) (pg := none) (cl0 := 0) (F := F) hs hn0 hmh (fun h => by simp at h) hT).mono fun v w' ⟨r', c', h1, h2, h3⟩ => ⟨r', c', h1, h2, (vec_nil h3).picks (by focus ((repeat (first | apply Picks.all | apply Picks.nil | (refine Picks.cons (by repeat (first | apply Take.head | apply Take.tail)) ?_) | apply Picks.drop)); done))⟩
  · have hrd : ReadsMade ρ (Row g (made.flatMap intL ++ sp) 3 :: F) (some ⟨g, 0, none⟩) made := fun _ => ⟨g, _, rfl, .own .head, fun i hi => by
      rw [ints_flat, List.getElem?_append_left (by rw [List.length_map]; exact hi), List.getElem?_map, List.getElem?_eq_getElem hi]
      rfl⟩
    exact (refOne (pg := some ⟨g, 0, none⟩) (cl0 := cap1) (F := Row g (made.flatMap intL ++ sp) 3 :: F) hs hn0 hmh hrd (hT.take (.tail .head))).mono fun v w' ⟨r', c', h1, h2, h3⟩ =>
      ⟨r', c', h1, h2, (vec_shut (m := made.length) (xs := made.flatMap intL) (h3.take (.tail .head)) k1 k2 (by rw [List.length_append, hl, k3, ← Nat.add_mul, Nat.add_sub_cancel' k1]) (by rw [← hl]; exact List.take_left)).picks (by focus ((repeat (first | apply Picks.all | apply Picks.nil | (refine Picks.cons (by repeat (first | apply Take.head | apply Take.tail)) ?_) | apply Picks.drop)); done))⟩

set_option maxHeartbeats 8000000 in
theorem refRun {st : List Stp} {z : Value} (g : Good lim L) (hh : Sl ρ intL 1 hv heard) (hl : Sl ρ stpL 5 z st) (hq : ∀ s ∈ st, 0 ≤ s.n ∧ s.n ≤ 18446744073709551615) (hll : st.length ≤ 1000) (hhh : AllHas L heard)
    (hS : St we ρ (RA (raV lim r L.length cap) lim L :: σ) w) :
    Cl Try.prog 16 [raV lim r L.length cap, hv, z] w fun v w' => ∃ r' c' mv, v = .tuple #[raV lim r' (runS lim heard st L [] 0).1.length c', mv, .int .i64 (runS lim heard st L [] 0).2.2.1, .int .i64 (runS lim heard st L [] 0).2.2.2] ∧
      St we ρ (Vec 3 1 mv (runS lim heard st L [] 0).2.1.length ((runS lim heard st L [] 0).2.1.flatMap intL) :: RA (raV lim r' (runS lim heard st L [] 0).1.length c') lim (runS lim heard st L [] 0).1 :: σ) w' := by
  obtain ⟨p1, c1, rfl, k1, k2, hrow⟩ := hl.val
  refine Run.calls3 (n := 45) Try.func16 rfl rfl rfl ?_
  have tok : True := trivial
  repeat' first
    | (have _ := tok; clear tok; apply RO.op; apply OP.box hS; rfl; rfl; rfl; clear hS; intro b3 w1 hS)
    | (apply RO.op; apply OP.alloc hS; rfl; rfl; rfl; clear hS; intro b6 w1 hS)
    | refine Run.seq ?_
    | refine Run.region ?_
    | (refine RO.split ?_ ?_ <;> intro hc <;> try (first | (exfalso; omega) | exact absurd rfl hc | exact Bool.noConfusion hc))
    | refine RO.nil ?_
    | refine RO.still (by exact Still.any) hS rfl ?_
    | (apply RO.op; apply OP.box hS; rfl; rfl; rfl; clear hS; intro b w1 hS)
    | (apply RO.op; apply OP.alloc hS; rfl; rfl; rfl; clear hS; intro b w1 hS)
    | (apply RO.op; apply OP.store hS; rfl; rfl; rfl; rfl; rfl; (focus ((repeat (first | apply Has.head | apply Take.head | apply Put.head | apply Has.tail | apply Take.tail | apply Put.tail)); done)); rfl; rfl; clear hS; intro w1 hS)
    | (apply RO.op; apply OP.buildSlice hS; rfl; rfl; (exact eqAuto); rfl; rfl; rfl; rfl; rfl; clear hS; intro b w1 hS)
    | (apply RO.op; apply OP.makeMap hS; rfl; clear hS; intro b w1 hS)
    | refine RO.yes rfl rfl ?_
    | refine RO.no rfl rfl rfl rfl ?_
    | refine RO.noUndef rfl rfl rfl ?_
    | refine RO.noNone rfl rfl rfl ?_
    | refine Run.cond_true rfl ?_
    | refine Run.cond_false rfl ?_
    | refine Run.skip ?_
    | refine Run.block ?_
    | refine Run.inBlock ?_
    | refine Run.exit rfl ?_
  refine Run.while (fun q : Nat × List Nd × List Int × Value × Nat × Nat => [(1, hv), (2, .slice p1 st.length c1), (3, .pointer (some ⟨b3, 0, none⟩)), (6, .pointer (some ⟨b6, 0, none⟩)), (10, q.2.2.2.1), (11, .int .i64 q.1)])
    (fun q w => q.1 ≤ st.length ∧ runS lim heard st L [] 0 = runS lim heard (st.drop q.1) q.2.1 q.2.2.1 q.1 ∧ Good lim q.2.1 ∧ AllHas q.2.1 heard ∧ AllHas q.2.1 q.2.2.1 ∧ q.2.2.1.length = q.1 ∧
      St we ρ (Row b3 [.int .i64 lim, .slice (some ⟨q.2.2.2.2.1, 0, none⟩) q.2.1.length q.2.2.2.2.2] 29 :: Row b6 [.int .i64 0, .slice none 0 0] 29 :: Vec 3 1 q.2.2.2.1 q.2.2.1.length (q.2.2.1.flatMap intL) :: RA (raV lim q.2.2.2.2.1 q.2.1.length q.2.2.2.2.2) lim q.2.1 :: σ) w) (fun q => st.length - q.1) (0, L, [], .slice none 0 0, r, cap)
    ⟨by simp, rfl, g, hhh, (fun x hx => by cases hx), rfl, (vec_nil hS).picks (by focus ((repeat (first | apply Picks.all | apply Picks.nil | (refine Picks.cons (by repeat (first | apply Take.head | apply Take.tail)) ?_) | apply Picks.drop)); done))⟩ (by focus ((repeat (first | exact .nil | refine .cons rfl ?_)); done)) ?_
  clear hS hhh g
  rintro ⟨i, L, made, mv, r, cap⟩ w ⟨hi, hrun, g, hhh, hmh, hml, hS⟩ ih
  simp only at hi hrun g hhh hmh hml hS ih ⊢
  rw [hrun]
  by_cases hlt : i < st.length
  · obtain ⟨bb, off, cs, el, fr, rfl, hmem, hnd⟩ := hrow (by omega)
    have hni := hnd i hlt
    have hsq := hq st[i] (List.getElem_mem hlt)
    have hdrop : st.drop i = st[i] :: st.drop (i + 1) := List.drop_eq_getElem_cons hlt
    generalize st[i] = s at hni hsq hdrop
    obtain ⟨q1, q2, q3, q4⟩ := allHas_one (made := made) g hhh hmh (s := s)
    have hone : ∀ {w : World} {G : List HP}, St we ρ (RA (raV lim r L.length cap) lim L :: Vec 3 1 mv made.length (made.flatMap intL) :: G) w → _ := fun {w G} hS => refOneV (w := w) (F := G) (s := s) hh hsq.1 hmh hS
    obtain ⟨L2, x, e, ho⟩ : ∃ L2 x e, oneS lim L heard made s = (L2, x, e) := ⟨_, _, _, rfl⟩
    simp only [ho] at hone
    repeat' first
      | refine Run.seq ?_
      | refine Run.region ?_
      | (refine RO.split ?_ ?_ <;> intro hc <;> try (first | (exfalso; omega) | exact absurd rfl hc | exact Bool.noConfusion hc))
      | refine RO.nil ?_
      | refine RO.still (by exact Still.any) hS rfl ?_
      | (apply RO.op; apply OP.box hS; rfl; rfl; rfl; clear hS; intro b w1 hS)
      | (apply RO.op; apply OP.alloc hS; rfl; rfl; rfl; clear hS; intro b w1 hS)
      | (apply RO.op; apply OP.store hS; rfl; rfl; rfl; rfl; rfl; (focus ((repeat (first | apply Has.head | apply Take.head | apply Put.head | apply Has.tail | apply Take.tail | apply Put.tail)); done)); rfl; rfl; clear hS; intro w1 hS)
      | (apply RO.op; apply OP.buildSlice hS; rfl; rfl; (exact eqAuto); rfl; rfl; rfl; rfl; rfl; clear hS; intro b w1 hS)
      | (apply RO.op; apply OP.makeMap hS; rfl; clear hS; intro b w1 hS)
      | refine RO.yes rfl rfl ?_
      | refine RO.no rfl rfl rfl rfl ?_
      | refine RO.noUndef rfl rfl rfl ?_
      | refine RO.noNone rfl rfl rfl ?_
      | refine Run.cond_true rfl ?_
      | refine Run.cond_false rfl ?_
      | refine Run.skip ?_
      | refine Run.block ?_
      | refine Run.inBlock ?_
      | refine Run.exit rfl ?_
    refine (Run.regionH_cut (fun x1 : {x2 : Nat × Nat × Nat // e ≠ 0 → x2.1 = r ∧ x2.2.1 = cap} => Row x1.1.2.2 [.int .i64 lim, .slice (some ⟨x1.1.1, 0, none⟩) L2.length x1.1.2.1] 29 :: Row b3 [.int .i64 lim, .slice (some ⟨r, 0, none⟩) L.length cap] 29 :: Row b6 [.int .i64 0, .slice none 0 0] 29 :: Vec 3 1 mv made.length (made.flatMap intL) :: RA (raV lim x1.1.1 L2.length x1.1.2.1) lim L2 :: σ)
      (fun x1 => [(1, hv), (2, .slice (some ⟨bb, off, none⟩) st.length c1), (3, .pointer (some ⟨b3, 0, none⟩)), (6, .pointer (some ⟨b6, 0, none⟩)), (10, mv), (11, .int .i64 i), (12, .pointer (some ⟨x1.1.2.2, 0, none⟩)), (13, .int .i64 x), (14, .int .i64 e)])
      hS (.cons_cons _ (.cons_cons _ (.cons _ (.cons _ (List.Sublist.refl _))))) (by rfl) (by rfl) (by rfl) ?_ ?_)
    · clear hS
      intro w1 hS
      refine RH.relist (listed' := bm 16 0) (by kernel_rfl) ?_
      all_goals (apply RH.take (i := 0) (listed := (bm 16 0)) (listed' := (bm 16 1)); rfl; kernel_rfl; kernel_rfl; (first | (apply Still.loadAgg; rfl; rfl; (exact eqAuto); exact Rd.ro hmem; exact hni; rfl) | (apply Still.load; rfl; rfl; (exact Rd.any); (first | rfl | exact flat_get0 (by assumption) | exact flat_get1 (by assumption) | exact flat_get2 (by assumption) | exact flat_get3 (by assumption) | exact flat_get4 (by assumption))) | (apply Still.loadAgg; rfl; rfl; (exact eqAuto); (exact Rd.any); (first | exact flat_take (by assumption) | rfl); rfl)); (first | exact hS | exact hS.tail | exact hS.sublist (by repeat (first | exact List.Sublist.refl _ | refine .cons_cons _ ?_ | refine .cons _ ?_))); rfl)
      all_goals (apply RH.take (i := 1) (listed := (bm 16 1)) (listed' := (bm 16 3)); rfl; kernel_rfl; kernel_rfl; (apply Still.move; rfl); (first | exact hS | exact hS.tail | exact hS.sublist (by repeat (first | exact List.Sublist.refl _ | refine .cons_cons _ ?_ | refine .cons _ ?_))); rfl)
      all_goals (apply RH.take (i := 2) (listed := (bm 16 3)) (listed' := (bm 16 7)); rfl; kernel_rfl; kernel_rfl; (apply Still.move; rfl); (first | exact hS | exact hS.tail | exact hS.sublist (by repeat (first | exact List.Sublist.refl _ | refine .cons_cons _ ?_ | refine .cons _ ?_))); rfl)
      all_goals (apply RH.take (i := 3) (listed := (bm 16 7)) (listed' := (bm 16 15)); rfl; kernel_rfl; kernel_rfl; (apply Still.move; rfl); (first | exact hS | exact hS.tail | exact hS.sublist (by repeat (first | exact List.Sublist.refl _ | refine .cons_cons _ ?_ | refine .cons _ ?_))); rfl)
      all_goals (apply RH.take (i := 4) (listed := (bm 16 15)) (listed' := (bm 16 31)); rfl; kernel_rfl; kernel_rfl; (apply Still.move; rfl); (first | exact hS | exact hS.tail | exact hS.sublist (by repeat (first | exact List.Sublist.refl _ | refine .cons_cons _ ?_ | refine .cons _ ?_))); rfl)
      all_goals (apply RH.take (i := 5) (listed := (bm 16 31)) (listed' := (bm 16 63)); rfl; kernel_rfl; kernel_rfl; (first | (exact Still.any) | (apply Still.indexAddrA; rfl; rfl; rfl; (exact eqAuto); omega; omega; (first | (simp only [Int.toNat_natCast, Nat.mul_one, Nat.zero_add, Int.reduceToNat, Nat.reduceMul, Nat.reduceAdd, Nat.zero_mul]; exact rfl) | rfl))); (first | exact hS | exact hS.tail | exact hS.sublist (by repeat (first | exact List.Sublist.refl _ | refine .cons_cons _ ?_ | refine .cons _ ?_))); rfl)
      all_goals (apply RH.take (i := 6) (listed := (bm 16 63)) (listed' := (bm 16 127)); rfl; kernel_rfl; kernel_rfl; (first | (apply Still.loadAgg; rfl; rfl; (exact eqAuto); exact Rd.ro hmem; exact hni; rfl) | (apply Still.load; rfl; rfl; (exact Rd.any); (first | rfl | exact flat_get0 (by assumption) | exact flat_get1 (by assumption) | exact flat_get2 (by assumption) | exact flat_get3 (by assumption) | exact flat_get4 (by assumption))) | (apply Still.loadAgg; rfl; rfl; (exact eqAuto); (exact Rd.any); (first | exact flat_take (by assumption) | rfl); rfl)); (first | exact hS | exact hS.tail | exact hS.sublist (by repeat (first | exact List.Sublist.refl _ | refine .cons_cons _ ?_ | refine .cons _ ?_))); rfl)
      all_goals
        apply RH.all2 (i1 := 7) (i2 := 12) (listed := (bm 16 127))
        · kernel_rfl
        · apply RI.op (i := 7) (listed := (bm 16 127)) (listed' := (bm 16 255)); rfl; kernel_rfl
          all_goals try first
          | (apply OP.callF; rfl; rfl; rfl; show Cl _ 27 _ _ _; exact hone (hS.take2 (by focus ((repeat (first | apply Has.head | apply Take.head | apply Put.head | apply Has.tail | apply Take.tail | apply Put.tail)); done)) (by focus ((repeat (first | apply Has.head | apply Take.head | apply Put.head | apply Has.tail | apply Take.tail | apply Put.tail)); done))); clear hS; rintro v w1 ⟨r2, c2, rfl, hs2, hS⟩; refine ⟨(by first | exact hS | exact hS.tail | exact hS.sublist (by repeat (first | exact List.Sublist.refl _ | refine .cons_cons _ ?_ | refine .cons _ ?_))), ?_⟩)
          | (refine OP.still (by exact Still.any) hS rfl ⟨(by first | exact hS | exact hS.tail | exact hS.sublist (by repeat (first | exact List.Sublist.refl _ | refine .cons_cons _ ?_ | refine .cons _ ?_))), ?_⟩)
          all_goals (apply RH.take (i := 8) (listed := (bm 16 255)) (listed' := (bm 16 511)); rfl; kernel_rfl; kernel_rfl; (apply Still.move; rfl); (first | exact hS | exact hS.tail | exact hS.sublist (by repeat (first | exact List.Sublist.refl _ | refine .cons_cons _ ?_ | refine .cons _ ?_))); rfl)
          all_goals (apply RH.take (i := 9) (listed := (bm 16 511)) (listed' := (bm 16 1023)); rfl; kernel_rfl; kernel_rfl; (apply Still.extract; rfl; rfl); (first | exact hS | exact hS.tail | exact hS.sublist (by repeat (first | exact List.Sublist.refl _ | refine .cons_cons _ ?_ | refine .cons _ ?_))); rfl)
          all_goals (apply RH.take (i := 10) (listed := (bm 16 1023)) (listed' := (bm 16 2047)); rfl; kernel_rfl; kernel_rfl; (apply Still.extract; rfl; rfl); (first | exact hS | exact hS.tail | exact hS.sublist (by repeat (first | exact List.Sublist.refl _ | refine .cons_cons _ ?_ | refine .cons _ ?_))); rfl)
          all_goals (apply RH.take (i := 11) (listed := (bm 16 2047)) (listed' := (bm 16 4095)); rfl; kernel_rfl; kernel_rfl; (apply Still.extract; rfl; rfl); (first | exact hS | exact hS.tail | exact hS.sublist (by repeat (first | exact List.Sublist.refl _ | refine .cons_cons _ ?_ | refine .cons _ ?_))); rfl)
          all_goals
            apply RH.all1 (i := 12) (listed := (bm 16 4095))
            · kernel_rfl
            · apply RI.op (i := 12) (listed := (bm 16 4095)) (listed' := (bm 16 8191)); rfl; kernel_rfl
              all_goals try first
              | (apply OP.alloc hS; rfl; rfl; rfl; clear hS; intro b w1 hS; refine ⟨(by first | exact hS | exact hS.tail | exact hS.sublist (by repeat (first | exact List.Sublist.refl _ | refine .cons_cons _ ?_ | refine .cons _ ?_))), ?_⟩)
              all_goals
                apply RH.all1 (i := 13) (listed := (bm 16 8191))
                · kernel_rfl
                · apply RI.op (i := 13) (listed := (bm 16 8191)) (listed' := (bm 16 16383)); rfl; kernel_rfl
                  all_goals try first
                  | (apply OP.store hS; rfl; rfl; rfl; rfl; rfl; (focus ((repeat (first | apply Has.head | apply Take.head | apply Put.head | apply Has.tail | apply Take.tail | apply Put.tail)); done)); rfl; rfl; clear hS; intro w1 hS; refine ⟨(by first | exact hS | exact hS.tail | exact hS.sublist (by repeat (first | exact List.Sublist.refl _ | refine .cons_cons _ ?_ | refine .cons _ ?_))), ?_⟩)
                  all_goals (apply RH.take (i := 14) (listed := (bm 16 16383)) (listed' := (bm 16 32767)); rfl; kernel_rfl; kernel_rfl; (apply Still.assign; rfl); (first | exact hS | exact hS.tail | exact hS.sublist (by repeat (first | exact List.Sublist.refl _ | refine .cons_cons _ ?_ | refine .cons _ ?_))); rfl)
                  all_goals (apply RH.take (i := 15) (listed := (bm 16 32767)) (listed' := (bm 16 65535)); rfl; kernel_rfl; kernel_rfl; (apply Still.assign; rfl); (first | exact hS | exact hS.tail | exact hS.sublist (by repeat (first | exact List.Sublist.refl _ | refine .cons_cons _ ?_ | refine .cons _ ?_))); rfl)
                  all_goals (apply RH.done (listed := (bm 16 65535)); kernel_rfl)
                  all_goals (exact ⟨⟨(r2, c2, b), hs2⟩, (by focus ((repeat (first | exact .nil | refine .cons rfl ?_)); done)), hS.picks (by focus ((repeat (first | apply Picks.all | apply Picks.nil | (refine Picks.cons (by repeat (first | apply Take.head | apply Take.tail)) ?_) | apply Picks.drop)); done))⟩)
        · apply RI.op (i := 12) (listed := (bm 16 127)) (listed' := (bm 16 4223)); rfl; kernel_rfl
          all_goals try first
          | (apply OP.alloc hS; rfl; rfl; rfl; clear hS; intro b w1 hS; refine ⟨(by first | exact hS | exact hS.tail | exact hS.sublist (by repeat (first | exact List.Sublist.refl _ | refine .cons_cons _ ?_ | refine .cons _ ?_))), ?_⟩)
          all_goals
            apply RH.all1 (i := 7) (listed := (bm 16 4223))
            · kernel_rfl
            · apply RI.op (i := 7) (listed := (bm 16 4223)) (listed' := (bm 16 4351)); rfl; kernel_rfl
              all_goals try first
              | (apply OP.callF; rfl; rfl; rfl; show Cl _ 27 _ _ _; exact hone (hS.take2 (by focus ((repeat (first | apply Has.head | apply Take.head | apply Put.head | apply Has.tail | apply Take.tail | apply Put.tail)); done)) (by focus ((repeat (first | apply Has.head | apply Take.head | apply Put.head | apply Has.tail | apply Take.tail | apply Put.tail)); done))); clear hS; rintro v w1 ⟨r2, c2, rfl, hs2, hS⟩; refine ⟨(by first | exact hS | exact hS.tail | exact hS.sublist (by repeat (first | exact List.Sublist.refl _ | refine .cons_cons _ ?_ | refine .cons _ ?_))), ?_⟩)
              | (refine OP.still (by exact Still.any) hS rfl ⟨(by first | exact hS | exact hS.tail | exact hS.sublist (by repeat (first | exact List.Sublist.refl _ | refine .cons_cons _ ?_ | refine .cons _ ?_))), ?_⟩)
              all_goals (apply RH.take (i := 8) (listed := (bm 16 4351)) (listed' := (bm 16 4607)); rfl; kernel_rfl; kernel_rfl; (apply Still.move; rfl); (first | exact hS | exact hS.tail | exact hS.sublist (by repeat (first | exact List.Sublist.refl _ | refine .cons_cons _ ?_ | refine .cons _ ?_))); rfl)
              all_goals (apply RH.take (i := 9) (listed := (bm 16 4607)) (listed' := (bm 16 5119)); rfl; kernel_rfl; kernel_rfl; (apply Still.extract; rfl; rfl); (first | exact hS | exact hS.tail | exact hS.sublist (by repeat (first | exact List.Sublist.refl _ | refine .cons_cons _ ?_ | refine .cons _ ?_))); rfl)
              all_goals (apply RH.take (i := 10) (listed := (bm 16 5119)) (listed' := (bm 16 6143)); rfl; kernel_rfl; kernel_rfl; (apply Still.extract; rfl; rfl); (first | exact hS | exact hS.tail | exact hS.sublist (by repeat (first | exact List.Sublist.refl _ | refine .cons_cons _ ?_ | refine .cons _ ?_))); rfl)
              all_goals (apply RH.take (i := 11) (listed := (bm 16 6143)) (listed' := (bm 16 8191)); rfl; kernel_rfl; kernel_rfl; (apply Still.extract; rfl; rfl); (first | exact hS | exact hS.tail | exact hS.sublist (by repeat (first | exact List.Sublist.refl _ | refine .cons_cons _ ?_ | refine .cons _ ?_))); rfl)
              all_goals
                apply RH.all1 (i := 13) (listed := (bm 16 8191))
                · kernel_rfl
                · apply RI.op (i := 13) (listed := (bm 16 8191)) (listed' := (bm 16 16383)); rfl; kernel_rfl
                  all_goals try first
                  | (apply OP.store hS; rfl; rfl; rfl; rfl; rfl; (focus ((repeat (first | apply Has.head | apply Take.head | apply Put.head | apply Has.tail | apply Take.tail | apply Put.tail)); done)); rfl; rfl; clear hS; intro w1 hS; refine ⟨(by first | exact hS | exact hS.tail | exact hS.sublist (by repeat (first | exact List.Sublist.refl _ | refine .cons_cons _ ?_ | refine .cons _ ?_))), ?_⟩)
                  all_goals (apply RH.take (i := 14) (listed := (bm 16 16383)) (listed' := (bm 16 32767)); rfl; kernel_rfl; kernel_rfl; (apply Still.assign; rfl); (first | exact hS | exact hS.tail | exact hS.sublist (by repeat (first | exact List.Sublist.refl _ | refine .cons_cons _ ?_ | refine .cons _ ?_))); rfl)
                  all_goals (apply RH.take (i := 15) (listed := (bm 16 32767)) (listed' := (bm 16 65535)); rfl; kernel_rfl; kernel_rfl; (apply Still.assign; rfl); (first | exact hS | exact hS.tail | exact hS.sublist (by repeat (first | exact List.Sublist.refl _ | refine .cons_cons _ ?_ | refine .cons _ ?_))); rfl)
                  all_goals (apply RH.done (listed := (bm 16 65535)); kernel_rfl)
                  all_goals (exact ⟨⟨(r2, c2, b), hs2⟩, (by focus ((repeat (first | exact .nil | refine .cons rfl ?_)); done)), hS.picks (by focus ((repeat (first | apply Picks.all | apply Picks.nil | (refine Picks.cons (by repeat (first | apply Take.head | apply Take.tail)) ?_) | apply Picks.drop)); done))⟩)
    · clear hS
      rintro ⟨⟨r2, c2, b12⟩, hs2⟩ w1 hS
      rw [hdrop] at hrun ⊢
      simp only at hs2 hS ⊢
      by_cases he : e = 0
      · subst he
        rw [runS_yes (by rw [ho])] at hrun ⊢
        rw [ho] at hrun q1 q2 q3 q4 ⊢
        simp only at hrun q1 q2 q3 q4 ⊢
        rw [← hrun]
        repeat' first
          | (apply RO.op; apply OP.append (size := 1) (bytes := 8) (k := 1) (news := [.int .i64 x]) hS; rfl; rfl; rfl; rfl; rfl; rfl; rfl; rfl; exact (by omega); (focus ((repeat (first | apply Has.head | apply Take.head | apply Put.head | apply Has.tail | apply Take.tail | apply Put.tail)); done)); (exact Rd.any); rfl; rfl; exact (by intro v hv; simp at hv; subst hv; rfl); (exact (by unfold maxLen; omega)); (exact (by omega)); rfl
             clear hS; intro v2 w1 hS)
          | refine Run.seq ?_
          | refine Run.region ?_
          | (refine RO.split ?_ ?_ <;> intro hc <;> try (first | (exfalso; omega) | exact absurd rfl hc | exact Bool.noConfusion hc))
          | refine RO.nil ?_
          | refine RO.still (by exact Still.any) hS rfl ?_
          | (apply RO.op; apply OP.box hS; rfl; rfl; rfl; clear hS; intro b w1 hS)
          | (apply RO.op; apply OP.alloc hS; rfl; rfl; rfl; clear hS; intro b w1 hS)
          | (apply RO.op; apply OP.store hS; rfl; rfl; rfl; rfl; rfl; (focus ((repeat (first | apply Has.head | apply Take.head | apply Put.head | apply Has.tail | apply Take.tail | apply Put.tail)); done)); rfl; rfl; clear hS; intro w1 hS)
          | (apply RO.op; apply OP.buildSlice hS; rfl; rfl; (exact eqAuto); rfl; rfl; rfl; rfl; rfl; clear hS; intro b w1 hS)
          | (apply RO.op; apply OP.makeMap hS; rfl; clear hS; intro b w1 hS)
          | refine RO.yes rfl rfl ?_
          | refine RO.no rfl rfl rfl rfl ?_
          | refine RO.noUndef rfl rfl rfl ?_
          | refine RO.noNone rfl rfl rfl ?_
          | refine Run.cond_true rfl ?_
          | refine Run.cond_false rfl ?_
          | refine Run.skip ?_
          | refine Run.block ?_
          | refine Run.inBlock ?_
          | refine Run.exit rfl ?_
        refine Run.weaken (by focus ((repeat (first | exact .nil | refine .cons rfl ?_)); done)) (ih (i + 1, L2, made ++ [x], v2, r2, c2) _ ⟨by simp; omega, hrun, q1, q2, q4 trivial, by simp; omega, ?_⟩ (by simp; omega))
        simp only [List.length_append, List.flatMap_append]
        exact hS.picks (by focus ((repeat (first | apply Picks.all | apply Picks.nil | (refine Picks.cons (by repeat (first | apply Take.head | apply Take.tail)) ?_) | apply Picks.drop)); done))
      · obtain ⟨rfl, rfl⟩ := hs2 he
        have hL2 : L2 = L := by have := one_same (lim := lim) (L := L) (heard := heard) (made := made) (s := s) (by rw [ho]; exact he); rw [ho] at this; exact this
        subst hL2
        rw [runS_no (by rw [ho]; exact he)]
        rw [ho]
        simp only at ⊢
        repeat' first
          | refine Run.seq ?_
          | refine Run.region ?_
          | (refine RO.split ?_ ?_ <;> intro hc <;> try (first | (exfalso; omega) | exact absurd rfl hc | exact Bool.noConfusion hc))
          | refine RO.nil ?_
          | refine RO.still (by exact Still.any) hS rfl ?_
          | (apply RO.op; apply OP.box hS; rfl; rfl; rfl; clear hS; intro b w1 hS)
          | (apply RO.op; apply OP.alloc hS; rfl; rfl; rfl; clear hS; intro b w1 hS)
          | (apply RO.op; apply OP.store hS; rfl; rfl; rfl; rfl; rfl; (focus ((repeat (first | apply Has.head | apply Take.head | apply Put.head | apply Has.tail | apply Take.tail | apply Put.tail)); done)); rfl; rfl; clear hS; intro w1 hS)
          | (apply RO.op; apply OP.buildSlice hS; rfl; rfl; (exact eqAuto); rfl; rfl; rfl; rfl; rfl; clear hS; intro b w1 hS)
          | (apply RO.op; apply OP.makeMap hS; rfl; clear hS; intro b w1 hS)
          | refine RO.yes rfl rfl ?_
          | refine RO.no rfl rfl rfl rfl ?_
          | refine RO.noUndef rfl rfl rfl ?_
          | refine RO.noNone rfl rfl rfl ?_
          | refine Run.cond_true rfl ?_
          | refine Run.cond_false rfl ?_
          | refine Run.skip ?_
          | refine Run.block ?_
          | refine Run.inBlock ?_
          | refine Run.exit rfl ?_
        refine Run.ret Try.func16 rfl (.cell rfl (by first | exact run_loadAgg rfl rfl (hS.rd (by exact Rd.any)) (by rfl) (by rfl) | exact run_loadScalar rfl (cell_of (hS.rd (by exact Rd.any)) (by rfl))) (.tmp rfl (.tmp rfl (.tmp rfl .nil)))) ?_
        exact ⟨_, _, _, rfl, (vec_nil hS).picks (by focus ((repeat (first | apply Picks.all | apply Picks.nil | (refine Picks.cons (by repeat (first | apply Take.head | apply Take.tail)) ?_) | apply Picks.drop)); done))⟩
  · obtain rfl : i = st.length := by omega
    rw [List.drop_of_length_le (Nat.le_refl _)]
    repeat' first
      | refine Run.seq ?_
      | refine Run.region ?_
      | (refine RO.split ?_ ?_ <;> intro hc <;> try (first | (exfalso; omega) | exact absurd rfl hc | exact Bool.noConfusion hc))
      | refine RO.nil ?_
      | refine RO.still (by exact Still.any) hS rfl ?_
      | (apply RO.op; apply OP.box hS; rfl; rfl; rfl; clear hS; intro b w1 hS)
      | (apply RO.op; apply OP.alloc hS; rfl; rfl; rfl; clear hS; intro b w1 hS)
      | (apply RO.op; apply OP.store hS; rfl; rfl; rfl; rfl; rfl; (focus ((repeat (first | apply Has.head | apply Take.head | apply Put.head | apply Has.tail | apply Take.tail | apply Put.tail)); done)); rfl; rfl; clear hS; intro w1 hS)
      | (apply RO.op; apply OP.buildSlice hS; rfl; rfl; (exact eqAuto); rfl; rfl; rfl; rfl; rfl; clear hS; intro b w1 hS)
      | (apply RO.op; apply OP.makeMap hS; rfl; clear hS; intro b w1 hS)
      | refine RO.yes rfl rfl ?_
      | refine RO.no rfl rfl rfl rfl ?_
      | refine RO.noUndef rfl rfl rfl ?_
      | refine RO.noNone rfl rfl rfl ?_
      | refine Run.cond_true rfl ?_
      | refine Run.cond_false rfl ?_
      | refine Run.skip ?_
      | refine Run.block ?_
      | refine Run.inBlock ?_
      | refine Run.exit rfl ?_
    refine Run.ret Try.func16 rfl (.cell rfl (by first | exact run_loadAgg rfl rfl (hS.rd (by exact Rd.any)) (by rfl) (by rfl) | exact run_loadScalar rfl (cell_of (hS.rd (by exact Rd.any)) (by rfl))) (.tmp rfl (.tmp rfl (.tmp rfl .nil)))) ?_
    exact ⟨_, _, _, rfl, hS.picks (by focus ((repeat (first | apply Picks.all | apply Picks.nil | (refine Picks.cons (by repeat (first | apply Take.head | apply Take.tail)) ?_) | apply Picks.drop)); done))⟩
end

/-! Recipe15 -/

section
variable {we w : World} {ρ : List (Nat × Obj)} {σ F : List HP} {lim r cap : Nat} {L : List Nd} {made heard : List Int} {hv v mv : Value}

theorem refRunV {st : List Stp} {z : Value} (g : Good lim L) (hq : ∀ s ∈ st, 0 ≤ s.n ∧ s.n ≤ 18446744073709551615) (hll : st.length ≤ 1000) (hhh : AllHas L heard)
    (hS : St we ρ (Vec 3 1 hv heard.length (heard.flatMap intL) :: Vec 77 5 z st.length (st.flatMap stpL) :: RA (raV lim r L.length cap) lim L :: σ) w) :
    Cl Try.prog 16 [raV lim r L.length cap, hv, z] w fun v w' => ∃ r' c' mv, v = .tuple #[raV lim r' (runS lim heard st L [] 0).1.length c', mv, .int .i64 (runS lim heard st L [] 0).2.2.1, .int .i64 (runS lim heard st L [] 0).2.2.2] ∧
      St we ρ (Vec 3 1 mv (runS lim heard st L [] 0).2.1.length ((runS lim heard st L [] 0).2.1.flatMap intL) :: RA (raV lim r' (runS lim heard st L [] 0).1.length c') lim (runS lim heard st L [] 0).1 :: σ) w' := by
  obtain ⟨ρ1, o1, s1, hT⟩ := vec_freeze intL_length hS
  obtain ⟨ρ2, o2, s2, hT2⟩ := vec_freeze stpL_length hT
  exact (refRun g (s1.mono o2.sub) s2 hq hll hhh hT2).mono fun v w' ⟨r', c', mv, h1, h2⟩ => ⟨r', c', mv, h1, o1.back (o2.back h2)⟩
end
end Go.Proofs.Ythejfodjielahaa
