/-
  What a recipe makes can be made; a recipe run again. No program.
-/
import Derived.Test.YthejfodjielahaaRecipeWords
import Derived.Test.YthejfodjielahaaKnow10
namespace Go.Proofs.Ythejfodjielahaa
set_option maxRecDepth 8000
set_option linter.unusedSimpArgs false
set_option linter.unusedVariables false
open Go Go.RowKit

section
variable {lim : Nat} {L M : List Nd} {K : Int → Bool} {heard made : List Int} {s : Stp}

theorem pubK_ext (g : Good lim L) (g2 : Good lim (L ++ M)) (hh : ∀ x, K x = true → has L x = true) (y : Int) : pubK (L ++ M) K y = pubK L K y := by
  rw [Bool.eq_iff_iff, pubK_iff g, pubK_iff g2]
  constructor
  · rintro ⟨i, h1, h2, h3, h4⟩
    have hi := hh _ h2
    rw [nd_append hi] at h3 h4
    exact ⟨i, by have := has_iff.1 hi; omega, h2, h3, h4⟩
  · rintro ⟨i, h1, h2, h3, h4⟩
    have hi := has_of h1
    exact ⟨i, by rw [List.length_append]; omega, h2, by rw [nd_append hi]; exact h3, by rw [nd_append hi]; exact h4⟩
theorem can_ext (g : Good lim L) (g2 : Good lim (L ++ M)) (hh : ∀ x, K x = true → has L x = true) : ∀ (f : Nat) (x : Int), x < f → has L x = true → can (L ++ M) K x = can L K x := by
  intro f
  induction f with
  | zero => intro x hx h; have := has_iff.1 h; omega
  | succ f ih =>
    intro x hlt hx
    rw [can_eq g K hx, can_eq g2 K (has_append hx)]
    congr 1
    unfold canR
    rw [nd_append hx]
    by_cases k0 : (nd L x).k = 0 ∨ (nd L x).k = 9
    · rw [if_pos k0, if_pos k0]
    rcases nd_parts g hx with hk | ⟨a1, a2, a3, b1, b2, b3⟩
    · exact absurd (.inl hk) k0
    rw [ih _ (by omega) a1, ih _ (by omega) a2, ih _ (by omega) a3, pubK_ext g g2 hh, pubK_ext g g2 hh]
theorem can_up (g : Good lim L) (g2 : Good lim (L ++ M)) (hh : ∀ x, K x = true → has L x = true) {x : Int} (h : can L K x = true) : can (L ++ M) K x = true := by
  rw [can_ext g g2 hh (x.toNat + 1) x (by have := has_iff.1 (can_has h); omega) (can_has h)]; exact h
theorem closed_ext (g : Good lim L) (g2 : Good lim (L ++ M)) (hh : ∀ x, K x = true → has L x = true) (hc : Closed L K) : Closed (L ++ M) K := by
  refine ⟨fun x hx hk => ?_, fun x hx hk hcn => ?_⟩
  · rw [nd_append (hh x hx)] at hk ⊢
    exact hc.pair x hx hk
  · rw [nd_append (hh x hx)] at hk hcn ⊢
    rcases nd_parts g (hh x hx) with q | ⟨a1, _⟩
    · omega
    · rw [can_ext g g2 hh ((nd L x).a.toNat + 1) _ (by have := has_iff.1 a1; omega) a1] at hcn
      exact hc.opn x hx hk hcn

/-- All of a list can be made. -/
def AllCan (L : List Nd) (K : Int → Bool) (l : List Int) : Prop := ∀ x ∈ l, can L K x = true
theorem allCan_mde (h : AllCan L K made) {x : Int} (hx : ahd made x = true) : can L K (mde made x) = true := by
  obtain ⟨h2, e⟩ := mde_get hx
  rw [e]; exact h _ (List.getElem_mem h2)

/-- A node that was made can be made, where its parts can. -/
theorem mk_can (g : Good lim L) (hh : ∀ x, K x = true → has L x = true) {n : Nd} (he : (mk lim L n).2.2 = 0)
    (hr : ∀ L' : List Nd, (∃ M, L' = L ++ M) → Good lim L' → (∀ x, K x = true → has L' x = true) → (∀ y, can L K y = true → can L' K y = true) → (∀ y, pubK L K y = true → pubK L' K y = true) → ∀ x, nd L' x = n → canR L' K (can L' K) x = true) :
    can (mk lim L n).1 K (mk lim L n).2.1 = true := by
  obtain ⟨h1, h2⟩ := mk_made he
  obtain ⟨M, hM⟩ := mk_prefix lim L n
  have g2 := mk_good g n
  rw [can_eq g2 K h1, Bool.or_eq_true]
  right
  have hup : ∀ y, can L K y = true → can (mk lim L n).1 K y = true := fun y hy => by
    rw [hM] at g2 ⊢; exact can_up g g2 hh hy
  have hpu : ∀ y, pubK L K y = true → pubK (mk lim L n).1 K y = true := fun y hy => by
    rw [hM] at g2 ⊢; rw [pubK_ext g g2 hh]; exact hy
  exact hr _ ⟨M, hM⟩ g2 (fun x hx => by rw [hM]; exact has_append (hh x hx)) hup hpu _ h2

theorem share_can (g : Good lim L) (hh : ∀ x, K x = true → has L x = true) {x y : Int} (hx : can L K x = true) (hy : can L K y = true) (he : (share lim L x y).2.2 = 0) : can (share lim L x y).1 K (share lim L x y).2.1 = true := by
  unfold share at he ⊢
  rw [if_pos ⟨can_has hx, can_has hy⟩] at he ⊢
  by_cases h2 : (nd L y).k ≠ 2
  · rw [if_pos h2] at he ⊢
    refine mk_can g hh he (fun L' hL g' hh' hup hpu z hz => ?_)
    unfold canR
    rw [hz]
    simp [hup _ hx, hup _ hy]
  · rw [if_neg h2] at he ⊢
    have h2' : (nd L y).k = 2 := by omega
    have hz : pubK L K (nd L y).a = true ∨ can L K (nd L y).a = true := by
      have := hy
      rw [can_eq g K (can_has hy), Bool.or_eq_true] at this
      rcases this with q | q
      · left
        obtain ⟨i, hi, hl⟩ := has_nat (hh _ q)
        exact (pubK_iff g).2 ⟨i, hl, by rw [← hi]; exact q, by rw [← hi]; exact h2', by rw [← hi]⟩
      · right
        unfold canR at q
        rw [if_neg (by omega), if_neg (by omega), if_pos h2'] at q
        exact q
    by_cases h3 : cmp L x (nd L y).a > 0
    · rw [if_pos h3] at he ⊢
      refine mk_can g hh he (fun L' hL g' hh' hup hpu z hzz => ?_)
      unfold canR
      rw [hzz]
      rcases hz with q | q
      · simp [hup _ hx, hpu _ q]
      · simp [hup _ hx, hup _ q]
    · rw [if_neg h3] at he ⊢
      refine mk_can g hh he (fun L' hL g' hh' hup hpu z hzz => ?_)
      unfold canR
      rw [hzz]
      rcases hz with q | q
      · simp [hup _ hx, hpu _ q]
      · simp [hup _ hx, hup _ q]

theorem taken_can (g : Good lim L) (hh : ∀ x, K x = true → has L x = true) (hc : Closed L K) (hm : AllCan L K made) (ha : ahd made s.a = true) (hb : s.op = 12 → ahd made s.b = true) (he : (takenOf L made s).2 = 0) : can L K (takenOf L made s).1 = true := by
  have hx := allCan_mde hm ha
  have hxh := can_has hx
  have hx2 := hx
  rw [can_eq g K hxh, Bool.or_eq_true] at hx2
  unfold takenOf at he ⊢
  by_cases h12 : s.op = 12
  · rw [if_pos h12] at he ⊢
    by_cases h7 : (nd L (mde made s.a)).k = 7 ∧ (nd L (mde made s.a)).a = mde made s.b
    · rw [if_pos h7]
      simp only
      have hkey : can L K (nd L (mde made s.a)).a = true := by rw [h7.2]; exact allCan_mde hm (hb h12)
      rcases hx2 with q | q
      · have := hc.opn _ q h7.1 hkey
        exact can_known g (hh _ this) this
      · unfold canR at q
        rw [if_neg (by omega), if_neg (by omega), if_neg (by omega), if_neg (by omega), if_pos h7.1] at q
        simp only [Bool.and_eq_true] at q
        exact q.2
    · rw [if_neg h7] at he; cases he
  · rw [if_neg h12] at he ⊢
    by_cases h8 : (nd L (mde made s.a)).k = 8
    · rw [if_pos h8]
      have hab : can L K (nd L (mde made s.a)).a = true ∧ can L K (nd L (mde made s.a)).b = true := by
        rcases hx2 with q | q
        · obtain ⟨p1, p2⟩ := hc.pair _ q h8
          exact ⟨can_known g (hh _ p1) p1, can_known g (hh _ p2) p2⟩
        · unfold canR at q
          rw [if_neg (by omega), if_neg (by omega), if_neg (by omega), if_neg (by omega), if_neg (by omega)] at q
          simpa using q
      simp only
      split
      · exact hab.1
      · exact hab.2
    · rw [if_neg h8] at he; cases he

theorem one_can (g : Good lim L) (hh : ∀ x, K x = true → has L x = true) (hc : Closed L K) (hn : 0 ≤ s.n) (h1 : ∀ x ∈ heard, K x = true) (hm : AllCan L K made) (he : (oneS lim L heard made s).2.2 = 0) :
    can (oneS lim L heard made s).1 K (oneS lim L heard made s).2.1 = true := by
  unfold oneS at he ⊢
  by_cases c0 : s.op = 0
  · rw [if_pos c0] at he ⊢
    by_cases hcd : s.n = 0 ∧ s.b = 0 ∧ s.c = 0 ∧ 0 ≤ s.a ∧ s.a < heard.length
    · rw [if_pos hcd]
      obtain ⟨h2, e⟩ := mde_get (made := heard) (x := s.a) (ahd_iff.2 hcd.2.2.2)
      have : K (mde heard s.a) = true := by rw [e]; exact h1 _ (List.getElem_mem h2)
      exact can_known g (hh _ this) this
    · rw [if_neg hcd] at he; cases he
  rw [if_neg c0] at he ⊢
  by_cases c1 : s.op = 1
  · rw [if_pos c1] at he ⊢
    by_cases hcd : s.n < 1048576 ∧ aheadS s 0 made = true
    · rw [if_pos hcd] at he ⊢
      refine mk_can g hh he (fun L' hL g' hh' hup hpu z hz => ?_)
      unfold canR
      rw [hz]
      simp
      omega
    · rw [if_neg hcd] at he; cases he
  rw [if_neg c1] at he ⊢
  by_cases c2 : s.op = 2
  · rw [if_pos c2] at he ⊢
    by_cases hcd : s.n = 0 ∧ aheadS s 1 made = true
    · rw [if_pos hcd] at he ⊢
      have ha := allCan_mde hm (ahead_a hcd.2 (by omega))
      refine mk_can g hh he (fun L' hL g' hh' hup hpu z hz => ?_)
      unfold canR
      rw [hz]
      simp [hup _ ha]
    · rw [if_neg hcd] at he; cases he
  rw [if_neg c2] at he ⊢
  by_cases c3 : s.op = 3
  · rw [if_pos c3] at he ⊢
    by_cases hcd : s.n = 0 ∧ aheadS s 2 made = true
    · rw [if_pos hcd] at he ⊢
      exact share_can g hh (allCan_mde hm (ahead_a hcd.2 (by omega))) (allCan_mde hm (ahead_b hcd.2 (by omega))) he
    · rw [if_neg hcd] at he; cases he
  rw [if_neg c3] at he ⊢
  by_cases c5 : s.op = 5 ∨ s.op = 8
  · rw [if_pos c5] at he ⊢
    by_cases hcd : s.n = 0 ∧ aheadS s 2 made = true
    · rw [if_pos hcd] at he ⊢
      have ha := allCan_mde hm (ahead_a hcd.2 (by omega))
      have hb := allCan_mde hm (ahead_b hcd.2 (by omega))
      refine mk_can g hh he (fun L' hL g' hh' hup hpu z hz => ?_)
      unfold canR
      rw [hz]
      rcases c5 with c5 | c5 <;> simp [c5, hup _ ha, hup _ hb]
    · rw [if_neg hcd] at he; cases he
  rw [if_neg c5] at he ⊢
  by_cases c6 : s.op = 6
  · rw [if_pos c6] at he ⊢
    by_cases hcd : 1 ≤ s.n ∧ s.n ≤ 4 ∧ aheadS s 2 made = true
    · rw [if_pos hcd] at he ⊢
      have ha := allCan_mde hm (ahead_a hcd.2.2 (by omega))
      have hb := allCan_mde hm (ahead_b hcd.2.2 (by omega))
      refine mk_can g hh he (fun L' hL g' hh' hup hpu z hz => ?_)
      unfold canR
      rw [hz]
      simp [hup _ ha, hup _ hb]
    · rw [if_neg hcd] at he; cases he
  rw [if_neg c6] at he ⊢
  by_cases c7 : s.op = 7
  · rw [if_pos c7] at he ⊢
    by_cases hcd : aheadS s 3 made = true
    · rw [if_pos hcd] at he ⊢
      have ha := allCan_mde hm (ahead_a hcd (by omega))
      have hb := allCan_mde hm (ahead_b hcd (by omega))
      have hc' := allCan_mde hm (ahead_c hcd (by omega))
      refine mk_can g hh he (fun L' hL g' hh' hup hpu z hz => ?_)
      unfold canR
      rw [hz]
      simp [hup _ ha, hup _ hb, hup _ hc']
    · rw [if_neg hcd] at he; cases he
  rw [if_neg c7] at he ⊢
  by_cases c9 : s.op = 9
  · rw [if_pos c9] at he ⊢
    by_cases hcd : aheadS s 0 made = true
    · rw [if_pos hcd] at he ⊢
      refine mk_can g hh he (fun L' hL g' hh' hup hpu z hz => ?_)
      unfold canR
      rw [hz]
      simp
    · rw [if_neg hcd] at he; cases he
  rw [if_neg c9] at he ⊢
  by_cases c10 : s.op = 10 ∨ s.op = 11
  · rw [if_pos c10] at he ⊢
    by_cases hcd : s.n = 0 ∧ aheadS s 1 made = true
    · rw [if_pos hcd] at he ⊢
      exact taken_can g hh hc hm (ahead_a hcd.2 (by omega)) (fun h => by omega) he
    · rw [if_neg hcd] at he; cases he
  rw [if_neg c10] at he ⊢
  by_cases c12 : s.op = 12
  · rw [if_pos c12] at he ⊢
    by_cases hcd : s.n = 0 ∧ aheadS s 2 made = true
    · rw [if_pos hcd] at he ⊢
      exact taken_can g hh hc hm (ahead_a hcd.2 (by omega)) (fun h => ahead_b hcd.2 (by omega)) he
    · rw [if_neg hcd] at he; cases he
  rw [if_neg c12] at he ⊢
  by_cases c13 : s.op = 13
  · rw [if_pos c13] at he ⊢
    by_cases hcd : s.n = 0 ∧ aheadS s 0 made = true
    · rw [if_pos hcd]
      show can L K 0 = true
      rw [can_eq g K (has0 g), Bool.or_eq_true]
      right
      unfold canR
      rw [g.wf.zero]
      rfl
    · rw [if_neg hcd] at he; cases he
  rw [if_neg c13] at he; cases he
end

/-- What a whole recipe leaves. -/
theorem runS_can {lim : Nat} {K : Int → Bool} {heard : List Int} (h1 : ∀ x ∈ heard, K x = true) : ∀ (l : List Stp) (L : List Nd) (made : List Int) (i : Nat), (∀ s ∈ l, 0 ≤ s.n) → Good lim L → (∀ x, K x = true → has L x = true) → Closed L K → AllCan L K made →
    Good lim (runS lim heard l L made i).1 ∧ (∃ M, (runS lim heard l L made i).1 = L ++ M) ∧ AllCan (runS lim heard l L made i).1 K (runS lim heard l L made i).2.1 ∧
      ((runS lim heard l L made i).2.2.2 = 0 → (runS lim heard l L made i).2.1.length = made.length + l.length) ∧ ((runS lim heard l L made i).2.2.2 ≠ 0 → (runS lim heard l L made i).2.1 = []) := by
  intro l
  induction l with
  | nil =>
    intro L made i _ g hh hc hm
    exact ⟨g, ⟨[], by simp [runS]⟩, hm, fun _ => by simp [runS], fun h => absurd rfl h⟩
  | cons s l ih =>
    intro L made i hn g hh hc hm
    unfold runS
    by_cases he : (oneS lim L heard made s).2.2 = 0
    · rw [if_neg (by simp [he])]
      have o := one_ok g (fun x hx => hh x (h1 x hx)) (fun x hx => can_has (hm x hx)) s
      obtain ⟨M, hM⟩ := o.ext
      have g2 := o.good
      have hcan := one_can g hh hc (hn s (by simp)) h1 hm he
      have hm2 : AllCan (oneS lim L heard made s).1 K (made ++ [(oneS lim L heard made s).2.1]) := by
        intro x hx
        rcases List.mem_append.1 hx with q | q
        · rw [hM] at g2 ⊢; exact can_up g g2 hh (hm x q)
        · rw [List.mem_singleton.1 q]; exact hcan
      obtain ⟨r1, ⟨M2, r2⟩, r3, r4, r5⟩ := ih (oneS lim L heard made s).1 (made ++ [(oneS lim L heard made s).2.1]) (i + 1) (fun t ht => hn t (by simp [ht])) g2 (fun x hx => by rw [hM]; exact has_append (hh x hx)) (by rw [hM] at g2 ⊢; exact closed_ext g g2 hh hc) hm2
      refine ⟨r1, ⟨M ++ M2, by rw [r2, hM, List.append_assoc]⟩, r3, fun h => ?_, r5⟩
      rw [r4 h, List.length_append, List.length_singleton, List.length_cons]
      omega
    · rw [if_pos he]
      exact ⟨g, ⟨[], by simp⟩, (fun x hx => by cases hx), fun h => absurd h he, fun _ => rfl⟩
end Go.Proofs.Ythejfodjielahaa
