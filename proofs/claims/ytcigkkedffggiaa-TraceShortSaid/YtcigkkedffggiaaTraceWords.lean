/-
  The plain words of the layer of traces: a part's key, what is mixed into a key, events. No program.
-/
import Derived.Test.YtcigkkedffggiaaMem
import Derived.Test.YtcigkkedffggiaaKnowPure
namespace Go.Proofs.Ytcigkkedffggiaa
set_option maxRecDepth 8000
set_option linter.unusedSimpArgs false
set_option linter.unusedVariables false
open Go Go.RowKit

structure Ev where
  sent : Bool
  part : Int
  payload : Int
  key : Int
def evL (x : Ev) : List Value := [.bool x.sent, .int .i64 x.part, .int .i64 x.payload, .int .i64 x.key]

def mixF : Nat → List Nd → Int → List Int
  | 0, _, _ => []
  | f + 1, L, k => if has L k = true ∧ (nd L k).k = 6 then mixF f L (nd L k).a ++ (if (nd L k).n ≠ 4 ∧ (nd L k).b ≠ 0 then [(nd L k).b] else []) else []
def mixed (L : List Nd) (k : Int) : List Int := mixF (L.length + 1) L k

theorem mixF_same {lim : Nat} {L : List Nd} (g : Good lim L) : ∀ (f f' : Nat) (x : Int), (has L x = true → x < f ∧ x < f') → mixF f L x = mixF f' L x := by
  intro f
  induction f with
  | zero =>
    intro f' x h
    by_cases hx : has L x = true
    · have := h hx; have := has_iff.1 hx; omega
    · cases f' with
      | zero => rfl
      | succ f' => simp only [mixF]; rw [if_neg (fun h => hx h.1)]
  | succ f ih =>
    intro f' x h
    by_cases hx : has L x = true ∧ (nd L x).k = 6
    · obtain ⟨h1, h2⟩ := h hx.1
      have h0 := has_iff.1 hx.1
      obtain ⟨f', rfl⟩ : ∃ m, f' = m + 1 := ⟨f' - 1, by omega⟩
      simp only [mixF]
      rw [if_pos hx, if_pos hx]
      rcases nd_parts g hx.1 with hk | ⟨a1, a2, a3, b1, b2, b3⟩
      · omega
      · rw [ih f' _ (fun _ => by omega)]
    · simp only [mixF]
      rw [if_neg hx]
      cases f' with
      | zero => rfl
      | succ f' => simp only [mixF]; rw [if_neg hx]
theorem mixed_yes {lim : Nat} {L : List Nd} (g : Good lim L) {x : Int} (hx : has L x = true) (hk : (nd L x).k = 6) : mixed L x = mixed L (nd L x).a ++ (if (nd L x).n ≠ 4 ∧ (nd L x).b ≠ 0 then [(nd L x).b] else []) := by
  unfold mixed
  conv => lhs; unfold mixF
  rw [if_pos ⟨hx, hk⟩]
  congr 1
  rcases nd_parts g hx with h | ⟨a1, a2, a3, b1, b2, b3⟩
  · omega
  · have h0 := has_iff.1 hx
    exact mixF_same g _ _ _ (fun h => by have := has_iff.1 h; omega)
theorem mixed_no {L : List Nd} {x : Int} (h : ¬ (has L x = true ∧ (nd L x).k = 6)) : mixed L x = [] := by
  unfold mixed mixF; rw [if_neg h]
/-- Where a part was sent. -/
def honestF : List Ev → Int → Nat → List Int
  | [], _, _ => []
  | x :: l, part, i => if x.sent = true ∧ x.part = part then (i : Int) :: honestF l part (i + 1) else honestF l part (i + 1)
def honest (l : List Ev) (part : Int) : List Int := honestF l part 0
end Go.Proofs.Ytcigkkedffggiaa
