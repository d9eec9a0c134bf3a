/-
  The document's rounds over all terms, in plain words: they end in the least closed set. No program.
-/
import Derived.Test.YthejfodjielahaaKnow6
namespace Go.Proofs.Ythejfodjielahaa
set_option maxRecDepth 8000
set_option linter.unusedSimpArgs false
set_option linter.unusedVariables false
open Go Go.RowKit

/-! ### A bool for each term -/
def boolsL (L : List Nd) (K : Int → Bool) : List Value := (List.range L.length).map fun i : Nat => Value.bool (K i)
theorem boolsL_length (L : List Nd) (K : Int → Bool) : (boolsL L K).length = L.length := by simp [boolsL]
theorem boolsL_get {L : List Nd} {K : Int → Bool} {x : Int} {spare : List Value} (h : has L x = true) : (boolsL L K ++ spare)[x.toNat]? = some (.bool (K x)) := by
  obtain ⟨i, rfl, hi⟩ := has_nat h
  rw [Int.toNat_natCast, List.getElem?_append_left (by rw [boolsL_length]; exact hi)]
  simp [boolsL, hi]
theorem boolsL_congr {L : List Nd} {K K' : Int → Bool} (h : ∀ x, has L x = true → K x = K' x) : boolsL L K = boolsL L K' := by
  unfold boolsL
  refine List.map_congr_left fun i hi => ?_
  rw [h i (has_of (List.mem_range.1 hi))]
theorem boolsL_one {L : List Nd} {K : Int → Bool} : ∀ u ∈ boolsL L K, one u = true := by
  intro u hu
  obtain ⟨x, _, rfl⟩ := List.mem_map.1 hu
  rfl
/-- One is told anew. -/
def upd (K : Int → Bool) (x : Int) (b : Bool) : Int → Bool := fun y => if y = x then b else K y
theorem boolsL_put {L : List Nd} {K : Int → Bool} {x : Int} {b : Bool} {spare : List Value} (h : has L x = true) :
    (boolsL L K ++ spare).take x.toNat ++ [.bool b] ++ (boolsL L K ++ spare).drop (x.toNat + 1) = boolsL L (upd K x b) ++ spare := by
  obtain ⟨i, rfl, hi⟩ := has_nat h
  rw [Int.toNat_natCast]
  have hl : (boolsL L K).length = L.length := boolsL_length L K
  have hat : ∀ (K : Int → Bool) (j : Nat), j < L.length → (boolsL L K ++ spare)[j]? = some (.bool (K j)) := fun K j hj => by
    have := boolsL_get (K := K) (spare := spare) (has_of hj)
    rwa [Int.toNat_natCast] at this
  have hout : ∀ (K : Int → Bool) (j : Nat), ¬ j < L.length → (boolsL L K ++ spare)[j]? = spare[j - L.length]? := fun K j hj => by
    rw [List.getElem?_append_right (by rw [boolsL_length]; omega), boolsL_length]
  apply List.ext_getElem?
  intro j
  rw [List.append_assoc]
  have ht : ((boolsL L K ++ spare).take i).length = i := by simp; omega
  by_cases h1 : j < i
  · rw [List.getElem?_append_left (by omega), List.getElem?_take_of_lt h1, hat _ j (by omega), hat _ j (by omega)]
    unfold upd
    rw [if_neg (by omega)]
  · rw [List.getElem?_append_right (by omega), ht]
    by_cases h2 : j = i
    · subst h2
      rw [Nat.sub_self, hat _ j hi]
      unfold upd
      rw [if_pos rfl]
      rfl
    · rw [List.getElem?_append_right (by simp; omega), List.getElem?_drop, List.length_singleton, show i + 1 + (j - i - 1) = j by omega]
      by_cases h3 : j < L.length
      · rw [hat _ j h3, hat _ j h3]
        unfold upd
        rw [if_neg (by omega)]
      · rw [hout _ j h3, hout _ j h3]
theorem upd_true (K : Int → Bool) (x : Int) : upd K x true = ins K x := by
  funext y
  unfold upd ins
  by_cases h : y = x <;> simp [h]

/-! ### A term's public key, found by going through all -/
theorem pubK_iff {lim : Nat} {L : List Nd} (g : Good lim L) {K : Int → Bool} {x : Int} : pubK L K x = true ↔ ∃ i : Nat, i < L.length ∧ K i = true ∧ (nd L i).k = 2 ∧ (nd L i).a = x := by
  constructor
  · intro h
    unfold pubK at h
    cases hf : find L ⟨2, 0, x, 0, 0⟩ with
    | none => rw [hf] at h; cases h
    | some i =>
      rw [hf] at h
      obtain ⟨h1, h2⟩ := find_some hf
      exact ⟨i, h1, h, by rw [h2], by rw [h2]⟩
  · rintro ⟨i, hi, hk, h2, rfl⟩
    have hs := g.shape i (has_of hi)
    have hnd : nd L i = ⟨2, 0, (nd L i).a, 0, 0⟩ := by
      generalize hq : nd L i = q at *
      obtain ⟨k, n, a, b, c⟩ := q
      simp only at h2
      subst h2
      obtain ⟨_, _, s3, s4, s5, s6⟩ := hs
      have e1 : many 2 = 1 := by decide
      simp only [e1] at s4 s5 s6
      have e2 : n = 0 := by simpa [numbered] using s3
      rw [e2, s5 (by omega), s6 (by omega)]
    have hf := find_of g.uniq (has_of hi)
    rw [hnd] at hf
    unfold pubK
    rw [hf]
    simpa using hk

/-! ### Rounds -/
def rnd (L : List Nd) (K : Int → Bool) : Nat → Int → Bool
  | 0 => K
  | n + 1 => if rnd L K n (n : Nat) = true then insAll (rnd L K n) (comesOf L K (n : Nat)) else rnd L K n
theorem rnd_mono {L : List Nd} {K : Int → Bool} {n : Nat} {y : Int} (h : rnd L K n y = true) : rnd L K (n + 1) y = true := by
  unfold rnd
  split
  · exact insAll_iff.2 (.inl h)
  · exact h
theorem rnd_le {L : List Nd} {K : Int → Bool} {n : Nat} {y : Int} (m : Nat) (h : rnd L K n y = true) : rnd L K (n + m) y = true := by
  induction m with
  | zero => exact h
  | succ m ih => exact rnd_mono ih
theorem rnd_sub {L : List Nd} {K : Int → Bool} {y : Int} (n : Nat) (h : K y = true) : rnd L K n y = true := by
  have := rnd_le (n := 0) n (show rnd L K 0 y = true from h)
  rwa [Nat.zero_add] at this
theorem comes_in {L : List Nd} {K C : Int → Bool} (hC : Closed L C) (hs : ∀ y, K y = true → C y = true) {z x : Int} (hz : C z = true) (h : x ∈ comesOf L K z) : C x = true := by
  unfold comesOf at h
  split at h
  · rename_i hk
    simp only [List.mem_cons, List.not_mem_nil, or_false] at h
    have := hC.pair z hz hk
    rcases h with rfl | rfl
    · exact this.1
    · exact this.2
  · split at h
    · rename_i hk
      simp only [List.mem_cons, List.not_mem_nil, or_false] at h
      subst h
      exact hC.opn z hz hk.1 (can_mono hs hk.2)
    · cases h
theorem rnd_within {L : List Nd} {K C : Int → Bool} (hC : Closed L C) (hs : ∀ y, K y = true → C y = true) (n : Nat) : ∀ y, rnd L K n y = true → C y = true := by
  induction n with
  | zero => exact hs
  | succ n ih =>
    intro y hy
    unfold rnd at hy
    split at hy
    · rename_i hz
      rcases insAll_iff.1 hy with q | q
      · exact ih y q
      · exact comes_in hC hs (ih _ hz) q
    · exact ih y hy
theorem rnd_mem {L : List Nd} {K : Int → Bool} {n i : Nat} (hi : i < n) (hk : K i = true) {x : Int} (hx : x ∈ comesOf L K i) : rnd L K n x = true := by
  have h1 : rnd L K (i + 1) x = true := by
    unfold rnd
    rw [if_pos (rnd_sub i hk)]
    exact insAll_iff.2 (.inr hx)
  have := rnd_le (n - (i + 1)) h1
  rwa [show i + 1 + (n - (i + 1)) = n by omega] at this
theorem rnd_has {lim : Nat} {L : List Nd} (g : Good lim L) {K : Int → Bool} (hh : ∀ y, K y = true → has L y = true) (n : Nat) : ∀ y, rnd L K n y = true → has L y = true := rnd_within (closed_has g) hh n

def rnds (L : List Nd) (K : Int → Bool) : Nat → Int → Bool
  | 0 => K
  | m + 1 => rnd L (rnds L K m) L.length
theorem rnds_has {lim : Nat} {L : List Nd} (g : Good lim L) {K : Int → Bool} (hh : ∀ y, K y = true → has L y = true) (m : Nat) : ∀ y, rnds L K m y = true → has L y = true := by
  induction m with
  | zero => exact hh
  | succ m ih => exact rnd_has g ih L.length
theorem rnds_sub {L : List Nd} {K : Int → Bool} (m : Nat) {y : Int} (h : K y = true) : rnds L K m y = true := by
  induction m with
  | zero => exact h
  | succ m ih => exact rnd_sub _ ih
theorem rnds_within {L : List Nd} {K C : Int → Bool} (hC : Closed L C) (hs : ∀ y, K y = true → C y = true) (m : Nat) : ∀ y, rnds L K m y = true → C y = true := by
  induction m with
  | zero => exact hs
  | succ m ih => exact rnd_within hC ih _
theorem rnds_end {lim : Nat} {L : List Nd} (g : Good lim L) {K : Int → Bool} (hh : ∀ y, K y = true → has L y = true) (m : Nat) : Closed L (rnds L K m) ∨ rest L (rnds L K m) + m ≤ L.length := by
  induction m with
  | zero =>
    refine .inr ?_
    have : rest L (rnds L K 0) ≤ (List.range L.length).length := List.countP_le_length
    simpa using this
  | succ m ih =>
    have hm := rnds_has g hh m
    by_cases hc : Closed L (rnds L K m)
    · left
      have : rnds L K (m + 1) = rnds L K m := by
        funext y
        rw [Bool.eq_iff_iff]
        exact ⟨rnd_within hc (fun _ h => h) _ y, rnd_sub _⟩
      rw [this]; exact hc
    · rcases ih with h | h
      · exact absurd h hc
      · right
        have hex : ∃ y, rnds L K (m + 1) y = true ∧ rnds L K m y = false := by
          refine Classical.byContradiction fun hno => hc (closed_of fun z hz x hx => ?_)
          obtain ⟨i, rfl, hi⟩ := has_nat (hm z hz)
          have h1 : rnds L K (m + 1) x = true := rnd_mem hi hz hx
          cases h2 : rnds L K m x with
          | true => rfl
          | false => exact absurd ⟨x, h1, h2⟩ hno
        obtain ⟨y, h1, h2⟩ := hex
        have := rest_lt (L := L) (K := rnds L K m) (K' := rnds L K (m + 1)) (fun z hz => rnd_sub _ hz) (rnds_has g hh (m + 1) y h1) h2 h1
        omega
theorem rnds_closed {lim : Nat} {L : List Nd} (g : Good lim L) {K : Int → Bool} (hh : ∀ y, K y = true → has L y = true) : Closed L (rnds L K L.length) := by
  rcases rnds_end g hh L.length with h | h
  · exact h
  · have h0 : rest L (rnds L K L.length) = 0 := by omega
    have hall : ∀ x, has L x = true → rnds L K L.length x = true := by
      intro x hx
      obtain ⟨i, rfl, hi⟩ := has_nat hx
      unfold rest at h0
      rw [List.countP_eq_zero] at h0
      have := h0 i (List.mem_range.2 hi)
      simpa using this
    exact closed_of fun z hz x hx => hall x (comes_has g (rnds_has g hh _ z hz) hx)
theorem rnds_cl {lim : Nat} {L : List Nd} (g : Good lim L) {K : Int → Bool} (hh : ∀ y, K y = true → has L y = true) : rnds L K L.length = cl L K :=
  cl_unique (rnds_closed g hh) (fun _ h => rnds_sub _ h) (fun C hC hs y hy => rnds_within hC hs _ y hy)
end Go.Proofs.Ythejfodjielahaa
