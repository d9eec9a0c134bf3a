/-
  A step in the program's words and in the document's: the same. No program.
-/
import Derived.Test.YthejfodjielahaaRecipeWords
import Derived.Test.YthejfodjielahaaTermRt
namespace Go.Proofs.Ythejfodjielahaa
set_option maxRecDepth 8000
set_option linter.unusedSimpArgs false
set_option linter.unusedVariables false
open Go Go.RowKit

def partsV : List Value := [.int .i64 0, .int .i64 0, .int .i64 1, .int .i64 2, .int .i64 0, .int .i64 2, .int .i64 2, .int .i64 3, .int .i64 2, .int .i64 0, .int .i64 1, .int .i64 1, .int .i64 2, .int .i64 0]
/-- May a step be, as to its op and its numbers? -/
def RightP (s : Stp) : Prop :=
  (0 ≤ s.op ∧ s.op ≤ 13 ∧ s.op ≠ 4) ∧ (¬ s.op = 1 ∨ s.n < 1048576) ∧ ((s.op = 1 ∨ s.op = 6 ∨ s.op = 7 ∨ s.op = 9) ∨ s.n = 0) ∧ ((s.op = 0 ∨ s.op = 2 ∨ s.op = 3 ∨ s.op = 5 ∨ s.op = 6 ∨ s.op = 7 ∨ s.op = 8 ∨ s.op = 10 ∨ s.op = 11 ∨ s.op = 12) ∨ s.a = 0) ∧
  ((s.op = 3 ∨ s.op = 5 ∨ s.op = 6 ∨ s.op = 7 ∨ s.op = 8 ∨ s.op = 12) ∨ s.b = 0) ∧ (s.op = 7 ∨ s.c = 0)
instance (s : Stp) : Decidable (RightP s) := by unfold RightP; infer_instance

def takenV (L : List Nd) (op x y : Int) : Int × Int :=
  if op = 12 then (if (nd L x).k = 7 ∧ (nd L x).a = y then ((nd L x).c, 0) else (0, 12))
  else if (nd L x).k = 8 then (if op = 10 then (nd L x).a else (nd L x).b, 0) else (0, 12)
/-- An argument that may not be is a step that can't be. -/
def fixE (q : List Nd × Int × Int) : List Nd × Int × Int := if q.2.2 = 1 then (q.1, 0, 12) else q

def argsS (s : Stp) : List Int := [s.a, s.b, s.c].take (uses s.op)
theorem uses_le (op : Int) : uses op ≤ 3 := by
  unfold uses
  split
  · omega
  · split
    · omega
    · split <;> omega
theorem argsS_len (s : Stp) : (argsS s).length = uses s.op := by
  unfold argsS
  rw [List.length_take]
  have := uses_le s.op
  simp only [List.length_cons, List.length_nil]
  omega
theorem partsV_at {op : Int} (h : 0 ≤ op ∧ op ≤ 13) : partsV[op.toNat]? = some (.int .i64 (uses op)) := by
  have hcs : op = 0 ∨ op = 1 ∨ op = 2 ∨ op = 3 ∨ op = 4 ∨ op = 5 ∨ op = 6 ∨ op = 7 ∨ op = 8 ∨ op = 9 ∨ op = 10 ∨ op = 11 ∨ op = 12 ∨ op = 13 := by omega
  rcases hcs with rfl | rfl | rfl | rfl | rfl | rfl | rfl | rfl | rfl | rfl | rfl | rfl | rfl | rfl <;> rfl

section
variable {lim : Nat} {L : List Nd} {heard made : List Int} {s : Stp}

theorem ahead_zero {u : Nat} (h : aheadS s u made = true) : (u = 0 → s.a = 0) ∧ (u ≤ 1 → s.b = 0) ∧ (u ≤ 2 → s.c = 0) := by
  unfold aheadS at h
  simp only [Bool.and_eq_true] at h
  refine ⟨fun hu => ?_, fun hu => ?_, fun hu => ?_⟩
  · have := h.1.1; rw [if_pos hu] at this; simpa using this
  · have := h.1.2; rw [if_pos hu] at this; simpa using this
  · have := h.2; rw [if_pos hu] at this; simpa using this

theorem one_wrong (h : ¬ RightP s) : oneS lim L heard made s = (L, 0, 12) := by
  unfold oneS
  by_cases c0 : s.op = 0
  · rw [if_pos c0, if_neg (fun hc => h (by simp [RightP, c0, hc.1, hc.2.1, hc.2.2.1]))]
  rw [if_neg c0]
  by_cases c1 : s.op = 1
  · rw [if_pos c1, if_neg (fun hc => h (by
      obtain ⟨z1, z2, z3⟩ := ahead_zero hc.2
      simp [RightP, c1, hc.1, z1 rfl, z2 (by omega), z3 (by omega)]))]
  rw [if_neg c1]
  by_cases c2 : s.op = 2
  · rw [if_pos c2, if_neg (fun hc => h (by
      obtain ⟨z1, z2, z3⟩ := ahead_zero hc.2
      simp [RightP, c2, hc.1, z2 (by omega), z3 (by omega)]))]
  rw [if_neg c2]
  by_cases c3 : s.op = 3
  · rw [if_pos c3, if_neg (fun hc => h (by
      obtain ⟨z1, z2, z3⟩ := ahead_zero hc.2
      simp [RightP, c3, hc.1, z3 (by omega)]))]
  rw [if_neg c3]
  by_cases c5 : s.op = 5 ∨ s.op = 8
  · rw [if_pos c5, if_neg (fun hc => h (by
      obtain ⟨z1, z2, z3⟩ := ahead_zero hc.2
      rcases c5 with c5 | c5 <;> simp [RightP, c5, hc.1, z3 (by omega)]))]
  rw [if_neg c5]
  by_cases c6 : s.op = 6
  · rw [if_pos c6, if_neg (fun hc => h (by
      obtain ⟨z1, z2, z3⟩ := ahead_zero hc.2.2
      simp [RightP, c6, z3 (by omega)]))]
  rw [if_neg c6]
  by_cases c7 : s.op = 7
  · exact absurd (by simp [RightP, c7]) h
  rw [if_neg c7]
  by_cases c9 : s.op = 9
  · rw [if_pos c9, if_neg (fun hc => h (by
      obtain ⟨z1, z2, z3⟩ := ahead_zero hc
      simp [RightP, c9, z1 rfl, z2 (by omega), z3 (by omega)]))]
  rw [if_neg c9]
  by_cases c10 : s.op = 10 ∨ s.op = 11
  · rw [if_pos c10, if_neg (fun hc => h (by
      obtain ⟨z1, z2, z3⟩ := ahead_zero hc.2
      rcases c10 with c10 | c10 <;> simp [RightP, c10, hc.1, z2 (by omega), z3 (by omega)]))]
  rw [if_neg c10]
  by_cases c12 : s.op = 12
  · rw [if_pos c12, if_neg (fun hc => h (by
      obtain ⟨z1, z2, z3⟩ := ahead_zero hc.2
      simp [RightP, c12, hc.1, z3 (by omega)]))]
  rw [if_neg c12]
  by_cases c13 : s.op = 13
  · rw [if_pos c13, if_neg (fun hc => h (by
      obtain ⟨z1, z2, z3⟩ := ahead_zero hc.2
      simp [RightP, c13, hc.1, z1 rfl, z2 (by omega), z3 (by omega)]))]
  rw [if_neg c13]

theorem ahead_all {u : Nat} (hu : u = uses s.op) (h : aheadS s u made = true) : (argsS s).all (ahd made) = true := by
  subst hu
  unfold argsS
  have h3 := uses_le s.op
  have ha := fun q => ahead_a (made := made) h q
  have hb := fun q => ahead_b (made := made) h q
  have hc := fun q => ahead_c (made := made) h q
  match hu : uses s.op, h3 with
  | 0, _ => rfl
  | 1, _ => simp [ha (by omega)]
  | 2, _ => simp [ha (by omega), hb (by omega)]
  | 3, _ => simp [ha (by omega), hb (by omega), hc (by omega)]

theorem one_used (hu : (argsS s).all (ahd made) = false) : oneS lim L heard made s = (L, 0, 12) := by
  have hno : ∀ u, u = uses s.op → ¬ aheadS s u made = true := fun u h1 h2 => by rw [ahead_all h1 h2] at hu; cases hu
  unfold oneS
  by_cases c0 : s.op = 0
  · simp [argsS, uses, c0] at hu
  rw [if_neg c0]
  by_cases c1 : s.op = 1
  · simp [argsS, uses, c1] at hu
  rw [if_neg c1]
  by_cases c2 : s.op = 2
  · rw [if_pos c2, if_neg (fun hc => hno _ (by simp [uses, c2]) hc.2)]
  rw [if_neg c2]
  by_cases c3 : s.op = 3
  · rw [if_pos c3, if_neg (fun hc => hno _ (by simp [uses, c3]) hc.2)]
  rw [if_neg c3]
  by_cases c5 : s.op = 5 ∨ s.op = 8
  · rw [if_pos c5, if_neg (fun hc => hno _ (by rcases c5 with c5 | c5 <;> simp [uses, c5]) hc.2)]
  rw [if_neg c5]
  by_cases c6 : s.op = 6
  · rw [if_pos c6, if_neg (fun hc => hno _ (by simp [uses, c6]) hc.2.2)]
  rw [if_neg c6]
  by_cases c7 : s.op = 7
  · rw [if_pos c7, if_neg (fun hc => hno _ (by simp [uses, c7]) hc)]
  rw [if_neg c7]
  by_cases c9 : s.op = 9
  · simp [argsS, uses, c9] at hu
  rw [if_neg c9]
  by_cases c10 : s.op = 10 ∨ s.op = 11
  · rw [if_pos c10, if_neg (fun hc => hno _ (by rcases c10 with c10 | c10 <;> simp [uses, c10]) hc.2)]
  rw [if_neg c10]
  by_cases c12 : s.op = 12
  · rw [if_pos c12, if_neg (fun hc => hno _ (by simp [uses, c12]) hc.2)]
  rw [if_neg c12]
  by_cases c13 : s.op = 13
  · simp [argsS, uses, c13] at hu
  rw [if_neg c13]

theorem all_ahead (hr : RightP s) (hop : s.op ≠ 0) (hu : (argsS s).all (ahd made) = true) : aheadS s (uses s.op) made = true := by
  obtain ⟨op, n, a, b, c⟩ := s
  simp only at hop
  obtain ⟨h1, h2, h3, h4, h5, h6⟩ := hr
  simp only at h1
  have hcs : op = 1 ∨ op = 2 ∨ op = 3 ∨ op = 5 ∨ op = 6 ∨ op = 7 ∨ op = 8 ∨ op = 9 ∨ op = 10 ∨ op = 11 ∨ op = 12 ∨ op = 13 := by omega
  rcases hcs with rfl | rfl | rfl | rfl | rfl | rfl | rfl | rfl | rfl | rfl | rfl | rfl
  all_goals
    simp [argsS, uses] at hu h2 h3 h4 h5 h6
    simp [aheadS, uses, hu, h2, h3, h4, h5, h6]

/-- The terms that a kind's node has. -/
def padS (s : Stp) (made : List Int) (j : Nat) : Int := ((argsS s).map (mde made) ++ [0, 0, 0]).getD j 0

theorem right_four {k n x y z : Int} (hk : k ≠ 3 ∧ 0 ≤ k ∧ k ≤ 9) (hn : numbered ⟨k, n, x, y, z⟩ = true) (hx : if 0 < many k then has L x = true else x = 0) (hy : if 1 < many k then has L y = true else y = 0) (hz : if 2 < many k then has L z = true else z = 0) (h4 : k ≠ 4) : right L ⟨k, n, x, y, z⟩ = true := by
  unfold right
  simp only [hn]
  have p : ∀ (j m : Int) (v : Int), (if j < m then has L v = true else v = 0) → partOk L m j v = true := fun j m v h => by
    unfold partOk
    split
    · rename_i q; rw [if_pos q] at h; exact h
    · rename_i q; rw [if_neg q] at h; simpa using h
  have q0 := p 0 (many k) x hx
  have q1 := p 1 (many k) y hy
  have q2 := p 2 (many k) z hz
  simp [hk.1, hk.2.1, hk.2.2, h4, q0, q1, q2]

theorem fixE_right {n : Nd} (h : right L n = true) : fixE (mk lim L n) = mk lim L n := by
  unfold mk
  rw [if_pos h]
  cases hf : find L n with
  | some i => rfl
  | none =>
    simp only
    by_cases hl : lim ≤ L.length
    · rw [if_pos hl]; rfl
    · rw [if_neg hl]; rfl
theorem fixE_wrong {n : Nd} (h : right L n = false) : fixE (mk lim L n) = (L, 0, 12) := by
  unfold mk
  rw [if_neg (by rw [h]; simp)]
  rfl

theorem one_built (g : Good lim L) (hr : RightP s) (hop : s.op = 2 ∨ s.op = 5 ∨ s.op = 6 ∨ s.op = 7 ∨ s.op = 8 ∨ s.op = 9) (hu : (argsS s).all (ahd made) = true) (hm : AllHas L made) :
    oneS lim L heard made s = fixE (mk lim L ⟨s.op, s.n, padS s made 0, padS s made 1, padS s made 2⟩) := by
  have hah := all_ahead hr (by omega) hu
  have hA := fun q => allHas_mde hm (ahead_a (made := made) hah q)
  have hB := fun q => allHas_mde hm (ahead_b (made := made) hah q)
  have hC := fun q => allHas_mde hm (ahead_c (made := made) hah q)
  obtain ⟨op, n, a, b, c⟩ := s
  obtain ⟨-, -, h3, -, -, -⟩ := hr
  simp only at hop h3 hA hB hC
  rcases hop with rfl | rfl | rfl | rfl | rfl | rfl
  · simp [uses] at hA h3
    subst h3
    have hah' : aheadS ⟨2, 0, a, b, c⟩ 1 made = true := hah
    have e0 : padS ⟨2, 0, a, b, c⟩ made 0 = mde made a := by simp [padS, argsS, uses]
    have e1 : padS ⟨2, 0, a, b, c⟩ made 1 = 0 := by simp [padS, argsS, uses]
    have e2 : padS ⟨2, 0, a, b, c⟩ made 2 = 0 := by simp [padS, argsS, uses]
    simp only [e0, e1, e2]
    rw [fixE_right (right_four (k := 2) (n := 0) (x := mde made a) (y := 0) (z := 0) (by omega) rfl (by simpa [many] using hA) (by simp [many]) (by simp [many]) (by omega))]
    simp [oneS, hah']
  · simp [uses] at hA hB h3
    subst h3
    have hah' : aheadS ⟨5, 0, a, b, c⟩ 2 made = true := hah
    have e0 : padS ⟨5, 0, a, b, c⟩ made 0 = mde made a := by simp [padS, argsS, uses]
    have e1 : padS ⟨5, 0, a, b, c⟩ made 1 = mde made b := by simp [padS, argsS, uses]
    have e2 : padS ⟨5, 0, a, b, c⟩ made 2 = 0 := by simp [padS, argsS, uses]
    simp only [e0, e1, e2]
    rw [fixE_right (right_four (k := 5) (n := 0) (x := mde made a) (y := mde made b) (z := 0) (by omega) rfl (by simpa [many] using hA) (by simpa [many] using hB) (by simp [many]) (by omega))]
    simp [oneS, hah']
  · simp [uses] at hA hB
    have hah' : aheadS ⟨6, n, a, b, c⟩ 2 made = true := hah
    have e0 : padS ⟨6, n, a, b, c⟩ made 0 = mde made a := by simp [padS, argsS, uses]
    have e1 : padS ⟨6, n, a, b, c⟩ made 1 = mde made b := by simp [padS, argsS, uses]
    have e2 : padS ⟨6, n, a, b, c⟩ made 2 = 0 := by simp [padS, argsS, uses]
    simp only [e0, e1, e2]
    by_cases hn : 1 ≤ n ∧ n ≤ 4
    · rw [fixE_right (right_four (k := 6) (n := n) (x := mde made a) (y := mde made b) (z := 0) (by omega) (by simp [numbered, hn]) (by simpa [many] using hA) (by simpa [many] using hB) (by simp [many]) (by omega))]
      simp [oneS, hah', hn]
    · have hnum : numbered ⟨6, n, mde made a, mde made b, 0⟩ = false := by
        simp [numbered]
        omega
      rw [fixE_wrong (by unfold right; rw [hnum]; simp)]
      have hq : ¬ (1 ≤ n ∧ n ≤ 4 ∧ aheadS ⟨6, n, a, b, c⟩ 2 made = true) := fun h => hn ⟨h.1, h.2.1⟩
      unfold oneS
      rw [if_neg (by simp), if_neg (by simp), if_neg (by simp), if_neg (by simp), if_neg (by simp), if_pos rfl, if_neg hq]
  · simp [uses] at hA hB hC
    have hah' : aheadS ⟨7, n, a, b, c⟩ 3 made = true := hah
    have e0 : padS ⟨7, n, a, b, c⟩ made 0 = mde made a := by simp [padS, argsS, uses]
    have e1 : padS ⟨7, n, a, b, c⟩ made 1 = mde made b := by simp [padS, argsS, uses]
    have e2 : padS ⟨7, n, a, b, c⟩ made 2 = mde made c := by simp [padS, argsS, uses]
    simp only [e0, e1, e2]
    rw [fixE_right (right_four (k := 7) (n := n) (x := mde made a) (y := mde made b) (z := mde made c) (by omega) (by simp [numbered]) (by simpa [many] using hA) (by simpa [many] using hB) (by simpa [many] using hC) (by omega))]
    simp [oneS, hah']
  · simp [uses] at hA hB h3
    subst h3
    have hah' : aheadS ⟨8, 0, a, b, c⟩ 2 made = true := hah
    have e0 : padS ⟨8, 0, a, b, c⟩ made 0 = mde made a := by simp [padS, argsS, uses]
    have e1 : padS ⟨8, 0, a, b, c⟩ made 1 = mde made b := by simp [padS, argsS, uses]
    have e2 : padS ⟨8, 0, a, b, c⟩ made 2 = 0 := by simp [padS, argsS, uses]
    simp only [e0, e1, e2]
    rw [fixE_right (right_four (k := 8) (n := 0) (x := mde made a) (y := mde made b) (z := 0) (by omega) rfl (by simpa [many] using hA) (by simpa [many] using hB) (by simp [many]) (by omega))]
    simp [oneS, hah']
  · have hah' : aheadS ⟨9, n, a, b, c⟩ 0 made = true := hah
    have e0 : padS ⟨9, n, a, b, c⟩ made 0 = 0 := by simp [padS, argsS, uses]
    have e1 : padS ⟨9, n, a, b, c⟩ made 1 = 0 := by simp [padS, argsS, uses]
    have e2 : padS ⟨9, n, a, b, c⟩ made 2 = 0 := by simp [padS, argsS, uses]
    simp only [e0, e1, e2]
    rw [fixE_right (right_four (k := 9) (n := n) (x := 0) (y := 0) (z := 0) (by omega) (by simp [numbered]) (by simp [many]) (by simp [many]) (by simp [many]) (by omega))]
    simp [oneS, hah']
theorem one_heard_yes (hr : RightP s) (hop : s.op = 0) (ha : 0 ≤ s.a ∧ s.a < heard.length) : oneS lim L heard made s = (L, mde heard s.a, 0) := by
  obtain ⟨op, n, a, b, c⟩ := s
  simp only at hop ha
  subst hop
  simp [RightP] at hr
  unfold oneS
  rw [if_pos rfl, if_pos ⟨hr.1, hr.2.1, hr.2.2, ha⟩]
theorem one_heard_no (hop : s.op = 0) (ha : ¬ (0 ≤ s.a ∧ s.a < heard.length)) : oneS lim L heard made s = (L, 0, 12) := by
  unfold oneS
  rw [if_pos hop, if_neg (fun h => ha h.2.2.2)]
theorem one_mine (hr : RightP s) (hop : s.op = 1) : oneS lim L heard made s = mk lim L ⟨1, 4294967296 + s.n, 0, 0, 0⟩ := by
  have hah := all_ahead (made := made) hr (by omega) (by simp [argsS, uses, hop])
  have h2 : s.n < 1048576 := by
    have := hr.2.1
    omega
  unfold oneS
  rw [if_neg (by omega), if_pos hop, if_pos ⟨h2, by simpa [uses, hop] using hah⟩]
theorem one_none (hr : RightP s) (hop : s.op = 13) : oneS lim L heard made s = (L, 0, 0) := by
  have hah := all_ahead (made := made) hr (by omega) (by simp [argsS, uses, hop])
  have h2 : s.n = 0 := by
    have := hr.2.2.1
    omega
  unfold oneS
  rw [if_neg (by omega), if_neg (by omega), if_neg (by omega), if_neg (by omega), if_neg (by omega), if_neg (by omega), if_neg (by omega), if_neg (by omega), if_neg (by omega), if_neg (by omega), if_pos hop, if_pos ⟨h2, by simpa [uses, hop] using hah⟩]
theorem one_share (hr : RightP s) (hop : s.op = 3) (hu : (argsS s).all (ahd made) = true) : oneS lim L heard made s = share lim L (mde made s.a) (mde made s.b) := by
  have hah := all_ahead hr (by omega) hu
  have h2 : s.n = 0 := by
    have := hr.2.2.1
    omega
  unfold oneS
  rw [if_neg (by omega), if_neg (by omega), if_neg (by omega), if_pos hop, if_pos ⟨h2, by simpa [uses, hop] using hah⟩]
theorem one_taken (hr : RightP s) (hop : s.op = 10 ∨ s.op = 11 ∨ s.op = 12) (hu : (argsS s).all (ahd made) = true) : oneS lim L heard made s = (L, takenV L s.op (mde made s.a) (mde made s.b)) := by
  have hah := all_ahead hr (by omega) hu
  have h2 : s.n = 0 := by
    have := hr.2.2.1
    omega
  unfold oneS
  rw [if_neg (by omega), if_neg (by omega), if_neg (by omega), if_neg (by omega), if_neg (by omega), if_neg (by omega), if_neg (by omega), if_neg (by omega)]
  by_cases h10 : s.op = 10 ∨ s.op = 11
  · rw [if_pos h10, if_pos ⟨h2, by rcases h10 with h | h <;> simpa [uses, h] using hah⟩]
    rfl
  · have h12 : s.op = 12 := by omega
    rw [if_neg h10, if_pos h12, if_pos ⟨h2, by simpa [uses, h12] using hah⟩]
    rfl
end
end Go.Proofs.Ythejfodjielahaa
