/-
  One step of a handshake's state, in plain words: what a sealing makes, what opening it gives back; keys drawn; no program.
-/
import Derived.Test.YtcigkkedffggiaaSymWords
namespace Go.Proofs.Ytcigkkedffggiaa
set_option maxRecDepth 8000
set_option linter.unusedSimpArgs false
set_option linter.unusedVariables false
open Go Go.RowKit

section
variable {lim : Nat} {L L' L1 L2 : List Nd} {n : Nd} {x y : Int}

theorem made_again (m : Made lim L n L' x) : mk lim L' n = (L', x, 0) := by
  have := mk_again (lim' := lim) m.good m.rt m.is
  rwa [m.node] at this
theorem has_zero (g : Good lim L) : has L 0 = true := by rw [has_iff]; have := g.wf.pos; omega
theorem ext_trans {A B C : List Nd} (h : ∃ M, B = A ++ M) (k : ∃ M, C = B ++ M) : ∃ M, C = A ++ M := by
  obtain ⟨M, e⟩ := h
  obtain ⟨N, f⟩ := k
  exact ⟨M ++ N, by rw [f, e, List.append_assoc]⟩
theorem ext_has {A B : List Nd} (h : ∃ M, B = A ++ M) {x : Int} (hx : has A x = true) : has B x = true := by obtain ⟨M, e⟩ := h; rw [e]; exact has_append hx
theorem ext_nd {A B : List Nd} (h : ∃ M, B = A ++ M) {x : Int} (hx : has A x = true) : nd B x = nd A x := by obtain ⟨M, e⟩ := h; rw [e]; exact nd_append hx

theorem ext_den {A B : List Nd} (h : ∃ M, B = A ++ M) {t : Int} {l : List Int} (hd : Den A t l) : Den B t l := by obtain ⟨M, e⟩ := h; rw [e]; exact hd.append

theorem copen_ext {c d : Cph} {ad q : Int} (h : copen L c ad x = (d, q, 0)) (e : ∃ M, L' = L ++ M) : copen L' c ad x = (d, q, 0) := by
  by_cases h1 : cmay L c ad x = 0
  rotate_left
  · rw [copen_err h1] at h; simp only [Prod.mk.injEq] at h; exact absurd h.2.2 h1
  have hz := cmay_zero.1 h1
  have hz' : cmay L' c ad x = 0 := cmay_zero.2 ⟨ext_has e hz.1, ext_has e hz.2.1, fun hh => ⟨ext_has e (hz.2.2 hh).1, (hz.2.2 hh).2⟩⟩
  unfold copen at h ⊢
  rw [if_neg (by omega)] at h ⊢
  rw [ext_nd e hz.2.1]
  exact h

theorem Den.kind {t : Int} {l : List Int} (g : Good lim L) (h : Den L t l) : (nd L t).k ≠ 5 := by
  cases h with
  | nil => rw [g.wf.zero]; simp [Nd.z]
  | snoc _ _ _ h3 _ => rw [h3]; simp

/-- Sealing and mixing what was sealed; and the same again, opened. -/
theorem seal_step {s : Sy} (g : Good lim L) (hr : Rt L) (hh : has L s.h = true) (hx : has L x = true) (hk : s.c.has = true → has L s.c.key = true ∧ 0 ≤ s.c.n ∧ s.c.n < 1000) (hl : L.length + 1 < lim) :
    ∃ L1 d q L2 yh, cseal lim L s.c s.h x = (L1, d, q, 0) ∧ Made lim L1 (hashN s.h q) L2 yh ∧ copen L2 s.c s.h q = (d, x, 0) ∧ mk lim L2 (hashN s.h q) = (L2, yh, 0) ∧
      (s.c.has = true → d = ⟨s.c.key, true, s.c.n + 1⟩) ∧ (s.c.has = false → d = s.c) ∧ L2.length ≤ L.length + 2 ∧ (∃ M, L2 = L ++ M) := by
  obtain ⟨⟨L1, d, q, e⟩, hc⟩ : ∃ r, cseal lim L s.c s.h x = r := ⟨_, rfl⟩
  cases hs : s.c.has with
  | false =>
    have hm : cmay L s.c s.h x = 0 := cmay_zero.2 ⟨hh, hx, fun h => by rw [hs] at h; cases h⟩
    have h1 := cseal_none (lim := lim) hm hs
    obtain ⟨L2, yh, m⟩ := made (n := hashN s.h x) g hr (hash_right hh hx) (by omega)
    exact ⟨L, s.c, x, L2, yh, h1, m, copen_ext (copen_none hm hs) m.ext, (made_again m), (fun h => by cases h), fun _ => rfl, by have := m.len; omega, m.ext⟩
  | true =>
    obtain ⟨k1, k2, k3⟩ := hk hs
    obtain ⟨e1, e2, e3, e4, e5⟩ := cseal_room (lim := lim) (L := L) (c := s.c) (ad := s.h) (p := x) hs hh hx k1 (by omega) (by omega)
    have hco := cseal_copen e1
    have hseal : cseal lim L s.c s.h x = ((mk lim L ⟨7, s.c.n, s.c.key, s.h, x⟩).1, later s.c, (mk lim L ⟨7, s.c.n, s.c.key, s.h, x⟩).2.1, 0) := Prod.ext e3 (Prod.ext e2 (Prod.ext e4 e1))
    rw [hseal] at hco
    simp only at hco
    have hlat : later s.c = ⟨s.c.key, true, s.c.n + 1⟩ := by
      simp only [later, hs]
      rw [wrap_u64 (by omega) (by omega)]
    obtain ⟨L1, q, m1⟩ := made (n := ⟨7, s.c.n, s.c.key, s.h, x⟩) g hr (by simp [right, numbered, many, partOk, hh, hx, k1]) (by omega)
    rw [m1.eq] at hseal hco
    simp only at hseal hco
    obtain ⟨L2, yh, m⟩ := made (n := hashN s.h q) m1.good m1.rt (hash_right (m1.has hh) m1.is) (by have := m1.len; omega)
    exact ⟨L1, later s.c, q, L2, yh, hseal, m, copen_ext hco m.ext, (made_again m), fun _ => hlat, (fun h => by cases h), by have := m.len; have := m1.len; omega, ext_trans m1.ext m.ext⟩

/-- Two keys. -/
theorem keys_step {ck : Int} (g : Good lim L) (hr : Rt L) (hc : has L ck = true) (hx : has L x = true) (hl : L.length + 1 < lim) :
    ∃ L1 y1 L2 y2, Made lim L (keyN 1 ck x) L1 y1 ∧ Made lim L1 (keyN 2 ck x) L2 y2 := by
  obtain ⟨L1, y1, m1⟩ := made (n := keyN 1 ck x) g hr (key_right (by omega) hc hx) (by omega)
  have l1 := m1.len
  obtain ⟨L2, y2, m2⟩ := made (n := keyN 2 ck x) m1.good m1.rt (key_right (by omega) (m1.has hc) (m1.has hx)) (by omega)
  exact ⟨L1, y1, L2, y2, m1, m2⟩
/-- Three keys, and one mixed. -/
theorem both_step {ck h : Int} (g : Good lim L) (hr : Rt L) (hc : has L ck = true) (hh : has L h = true) (hx : has L x = true) (hl : L.length + 3 < lim) :
    ∃ L1 y1 L2 y2 L3 y3 L4 yh, Made lim L (keyN 1 ck x) L1 y1 ∧ Made lim L1 (keyN 2 ck x) L2 y2 ∧ Made lim L2 (keyN 3 ck x) L3 y3 ∧ Made lim L3 (hashN h y2) L4 yh := by
  obtain ⟨L1, y1, L2, y2, m1, m2⟩ := keys_step g hr hc hx (by omega)
  have l1 := m1.len
  have l2 := m2.len
  obtain ⟨L3, y3, m3⟩ := made (n := keyN 3 ck x) m2.good m2.rt (key_right (by omega) (m2.has (m1.has hc)) (m2.has (m1.has hx))) (by omega)
  have l3 := m3.len
  obtain ⟨L4, yh, m4⟩ := made (n := hashN h y2) m3.good m3.rt (hash_right (m3.has (m2.has (m1.has hh))) (m3.has m2.is)) (by omega)
  exact ⟨L1, y1, L2, y2, L3, y3, L4, yh, m1, m2, m3, m4⟩
/-- Two makings of other nodes are others, wherever they are read later. -/
theorem ne_later {A : List Nd} {a b : Nd} {x y : Int} (h : a ≠ b) (hx : nd A x = a) (hy : nd A y = b) : x ≠ y := fun e => h (by rw [← hx, ← hy, e])
end
end Go.Proofs.Ytcigkkedffggiaa
