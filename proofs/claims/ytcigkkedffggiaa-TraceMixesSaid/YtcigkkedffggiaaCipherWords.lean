/-
  The plain words of the layer of ciphers: sealing, opening, another key; and what follows of them. No program.
-/
import Derived.Test.YtcigkkedffggiaaMem
import Derived.Test.YtcigkkedffggiaaTermRt
namespace Go.Proofs.Ytcigkkedffggiaa
set_option maxRecDepth 8000
set_option linter.unusedSimpArgs false
set_option linter.unusedVariables false
open Go Go.RowKit

structure Cph where
  key : Int
  has : Bool
  n : Int
deriving DecidableEq
def Cph.z : Cph := ⟨0, false, 0⟩
def cphL (c : Cph) : List Value := [.int .i64 c.key, .bool c.has, .int .u64 c.n]
def cphV (c : Cph) : Value := .agg (cphL c).toArray
instance : Inhabited Cph := ⟨Cph.z⟩

/-- Why a cipher can't seal, or open. -/
def cmay (L : List Nd) (c : Cph) (ad p : Int) : Int :=
  if (has L ad && has L p) = false ∨ (c.has = true ∧ has L c.key = false) then 1
  else if c.has = true ∧ c.n = 18446744073709551615 then 8 else 0
def later (c : Cph) : Cph := ⟨c.key, c.has, IntKind.u64.wrap (c.n + 1)⟩
def cseal (lim : Nat) (L : List Nd) (c : Cph) (ad p : Int) : List Nd × Cph × Int × Int :=
  if cmay L c ad p ≠ 0 then (L, .z, 0, cmay L c ad p)
  else if c.has = false then (L, c, p, 0)
  else if (mk lim L ⟨7, c.n, c.key, ad, p⟩).2.2 ≠ 0 then (L, .z, 0, (mk lim L ⟨7, c.n, c.key, ad, p⟩).2.2)
  else ((mk lim L ⟨7, c.n, c.key, ad, p⟩).1, later c, (mk lim L ⟨7, c.n, c.key, ad, p⟩).2.1, 0)
def copen (L : List Nd) (c : Cph) (ad x : Int) : Cph × Int × Int :=
  if cmay L c ad x ≠ 0 then (.z, 0, cmay L c ad x)
  else if c.has = false then (c, x, 0)
  else if nd L x = ⟨7, c.n, c.key, ad, (nd L x).c⟩ then (later c, (nd L x).c, 0) else (.z, 0, 7)
def crekey (lim : Nat) (L : List Nd) (c : Cph) : List Nd × Cph × Int :=
  if c.has = false then (L, .z, 10)
  else if (mk lim L ⟨6, 4, c.key, 0, 0⟩).2.2 ≠ 0 then (L, .z, (mk lim L ⟨6, 4, c.key, 0, 0⟩).2.2)
  else ((mk lim L ⟨6, 4, c.key, 0, 0⟩).1, ⟨(mk lim L ⟨6, 4, c.key, 0, 0⟩).2.1, c.has, c.n⟩, 0)

theorem mk_same {lim : Nat} {L : List Nd} {n : Nd} (h : (mk lim L n).2.2 ≠ 0) : (mk lim L n).1 = L := by
  rcases mk_err lim L n with h1 | ⟨_, h1, _⟩
  · exact absurd h1 h
  · exact h1

theorem cmay_zero {L : List Nd} {c : Cph} {ad p : Int} : cmay L c ad p = 0 ↔ has L ad = true ∧ has L p = true ∧ (c.has = true → has L c.key = true ∧ c.n ≠ 18446744073709551615) := by
  unfold cmay
  cases h1 : has L ad <;> cases h2 : has L p <;> cases h3 : c.has <;> cases h4 : has L c.key <;> simp
  all_goals (by_cases h5 : c.n = 18446744073709551615 <;> simp [h5])

theorem mk_keeps {lim : Nat} {L : List Nd} (n : Nd) {x : Int} (h : has L x = true) : has (mk lim L n).1 x = true ∧ nd (mk lim L n).1 x = nd L x := by
  obtain ⟨M, hM⟩ := mk_prefix lim L n
  rw [hM]
  exact ⟨has_append h, nd_append h⟩

/-- What was sealed is opened by the same cipher. -/
theorem cseal_copen {lim : Nat} {L : List Nd} {c : Cph} {ad p : Int} (h : (cseal lim L c ad p).2.2.2 = 0) :
    copen (cseal lim L c ad p).1 c ad (cseal lim L c ad p).2.2.1 = ((cseal lim L c ad p).2.1, p, 0) := by
  unfold cseal at h ⊢
  by_cases h1 : cmay L c ad p ≠ 0
  · rw [if_pos h1] at h; exact absurd h h1
  rw [if_neg h1] at h ⊢
  by_cases h2 : c.has = false
  · rw [if_pos h2]
    simp only
    unfold copen
    rw [if_neg h1, if_pos h2]
  rw [if_neg h2] at h ⊢
  by_cases h3 : (mk lim L ⟨7, c.n, c.key, ad, p⟩).2.2 ≠ 0
  · rw [if_pos h3] at h; exact absurd h h3
  rw [if_neg h3]
  simp only
  have hm := mk_made (show (mk lim L ⟨7, c.n, c.key, ad, p⟩).2.2 = 0 by omega)
  have hz := cmay_zero.1 (show cmay L c ad p = 0 by omega)
  have hz2 : cmay (mk lim L ⟨7, c.n, c.key, ad, p⟩).1 c ad (mk lim L ⟨7, c.n, c.key, ad, p⟩).2.1 = 0 :=
    cmay_zero.2 ⟨(mk_keeps _ hz.1).1, hm.1, fun hh => ⟨(mk_keeps _ (hz.2.2 hh).1).1, (hz.2.2 hh).2⟩⟩
  unfold copen
  rw [if_neg (by omega), if_neg h2, hm.2]
  simp

/-- .. and by one of another key, number, or beside another term it is not. -/
theorem copen_other {lim : Nat} {L : List Nd} {c d : Cph} {ad other p : Int} (h : (cseal lim L c ad p).2.2.2 = 0) (hc : c.has = true) (hd : d.has = true) :
    (copen (cseal lim L c ad p).1 d other (cseal lim L c ad p).2.2.1).2.2 = 0 ↔ d = c ∧ other = ad := by
  constructor
  · intro h0
    unfold cseal at h h0
    by_cases h1 : cmay L c ad p ≠ 0
    · rw [if_pos h1] at h; exact absurd h h1
    rw [if_neg h1] at h h0
    rw [if_neg (by simp [hc])] at h h0
    by_cases h3 : (mk lim L ⟨7, c.n, c.key, ad, p⟩).2.2 ≠ 0
    · rw [if_pos h3] at h; exact absurd h h3
    rw [if_neg h3] at h0
    simp only at h0
    have hm := mk_made (show (mk lim L ⟨7, c.n, c.key, ad, p⟩).2.2 = 0 by omega)
    unfold copen at h0
    split at h0
    · rename_i h5; exact absurd h0 h5
    rw [if_neg (by simp [hd])] at h0
    split at h0
    · rename_i h6
      rw [hm.2] at h6
      simp only [Nd.mk.injEq, true_and, and_true] at h6
      obtain ⟨k, b, n⟩ := c
      obtain ⟨k', b', n'⟩ := d
      simp only at hc hd h6
      obtain ⟨e1, e2, e3⟩ := h6
      rw [hc, hd, e1, e2, e3]
      exact ⟨rfl, rfl⟩
    · cases h0
  · rintro ⟨rfl, rfl⟩
    rw [cseal_copen h]

/-- A cipher with a key seals while there is room. -/
theorem cseal_room {lim : Nat} {L : List Nd} {c : Cph} {ad p : Int} (hc : c.has = true) (h1 : has L ad = true) (h2 : has L p = true) (h3 : has L c.key = true) (h4 : c.n ≠ 18446744073709551615) (hl : L.length < lim) :
    (cseal lim L c ad p).2.2.2 = 0 ∧ (cseal lim L c ad p).2.1 = later c ∧ (cseal lim L c ad p).1 = (mk lim L ⟨7, c.n, c.key, ad, p⟩).1 ∧ (cseal lim L c ad p).2.2.1 = (mk lim L ⟨7, c.n, c.key, ad, p⟩).2.1 ∧ (mk lim L ⟨7, c.n, c.key, ad, p⟩).2.2 = 0 := by
  have hz : cmay L c ad p = 0 := cmay_zero.2 ⟨h1, h2, fun _ => ⟨h3, h4⟩⟩
  have hr : right L ⟨7, c.n, c.key, ad, p⟩ = true := by simp [right, numbered, many, partOk, h1, h2, h3]
  have hm : (mk lim L ⟨7, c.n, c.key, ad, p⟩).2.2 = 0 := by
    rcases mk_cases lim L ⟨7, c.n, c.key, ad, p⟩ with ⟨e, h⟩ | ⟨i, e, _⟩ | ⟨e, _, _, h⟩ | ⟨e, _⟩
    · rw [hr] at h; cases h
    · rw [e]
    · omega
    · rw [e]
  unfold cseal
  rw [if_neg (by omega), if_neg (by simp [hc]), if_neg (by omega)]
  exact ⟨rfl, rfl, rfl, rfl, hm⟩
theorem mk_len (lim : Nat) (L : List Nd) (n : Nd) : (mk lim L n).1.length ≤ L.length + 1 := by
  rcases mk_cases lim L n with ⟨e, _⟩ | ⟨i, e, _⟩ | ⟨e, _⟩ | ⟨e, _⟩ <;> rw [e] <;> simp
theorem cseal_good {lim : Nat} {L : List Nd} (g : Good lim L) (c : Cph) (ad p : Int) : Good lim (cseal lim L c ad p).1 := by
  unfold cseal
  repeat' split
  · exact g
  · exact g
  · exact g
  · exact mk_good g _
theorem crekey_good {lim : Nat} {L : List Nd} (g : Good lim L) (c : Cph) : Good lim (crekey lim L c).1 := by
  unfold crekey
  repeat' split
  · exact g
  · exact g
  · exact mk_good g _
section
variable {lim : Nat} {L : List Nd} {c : Cph} {ad p x : Int}
theorem cseal_err (h : cmay L c ad p ≠ 0) : cseal lim L c ad p = (L, .z, 0, cmay L c ad p) := by unfold cseal; rw [if_pos h]
theorem cseal_none (h : cmay L c ad p = 0) (hc : c.has = false) : cseal lim L c ad p = (L, c, p, 0) := by unfold cseal; rw [if_neg (by omega), if_pos hc]
theorem cseal_full (h : cmay L c ad p = 0) (hc : c.has = true) (he : (mk lim L ⟨7, c.n, c.key, ad, p⟩).2.2 ≠ 0) : cseal lim L c ad p = (L, .z, 0, (mk lim L ⟨7, c.n, c.key, ad, p⟩).2.2) := by
  unfold cseal; rw [if_neg (by omega), if_neg (by simp [hc]), if_pos he]
theorem cseal_ok (h : cmay L c ad p = 0) (hc : c.has = true) (he : (mk lim L ⟨7, c.n, c.key, ad, p⟩).2.2 = 0) : cseal lim L c ad p = ((mk lim L ⟨7, c.n, c.key, ad, p⟩).1, later c, (mk lim L ⟨7, c.n, c.key, ad, p⟩).2.1, 0) := by
  unfold cseal; rw [if_neg (by omega), if_neg (by simp [hc]), if_neg (by omega)]
theorem copen_err (h : cmay L c ad x ≠ 0) : copen L c ad x = (.z, 0, cmay L c ad x) := by unfold copen; rw [if_pos h]
theorem copen_none (h : cmay L c ad x = 0) (hc : c.has = false) : copen L c ad x = (c, x, 0) := by unfold copen; rw [if_neg (by omega), if_pos hc]
theorem copen_no (h : cmay L c ad x = 0) (hc : c.has = true) (hn : nd L x ≠ ⟨7, c.n, c.key, ad, (nd L x).c⟩) : copen L c ad x = (.z, 0, 7) := by
  unfold copen; rw [if_neg (by omega), if_neg (by simp [hc]), if_neg hn]
theorem copen_yes (h : cmay L c ad x = 0) (hc : c.has = true) (hn : nd L x = ⟨7, c.n, c.key, ad, (nd L x).c⟩) : copen L c ad x = (later c, (nd L x).c, 0) := by
  unfold copen; rw [if_neg (by omega), if_neg (by simp [hc]), if_pos hn]
end
end Go.Proofs.Ytcigkkedffggiaa
