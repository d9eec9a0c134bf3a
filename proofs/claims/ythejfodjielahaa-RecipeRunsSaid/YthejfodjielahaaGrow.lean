/-
  An append upon a row of one's own, told of rows alone. Holds of every program.
-/
import Derived.Test.YthejfodjielahaaLib
namespace Go.Proofs.Ythejfodjielahaa
set_option maxRecDepth 8000
set_option linter.unusedSimpArgs false
set_option linter.unusedVariables false
open Go Go.RowKit

section
variable {P : Program} {f : FuncId} {n : Nat} {R : Ending → World → Prop} {k : List Item} {e : Env} {ty : TypeId} {x y z : Operand} {u v : Value}
variable {we w : World} {ρ : List (Nat × Obj)} {σ σ' F : List HP} {d : Nat} {pos : String} {aft : Array Edge} {gd : Option (Nat × Bool)} {K : Env → World → Prop}
variable {el : TypeId} {size m cap : Nat} {xs : List Value}

theorem OP.appendRow {t : TypeId} {i : TypeInfo} {z : Value} {bytes q o c k g s : Nat} {l l0 news ys : List Value} {el' : TypeId} {fr : Nat × Nat}
    (hS : St we ρ σ w) (hx : ev e x = some (.slice (some ⟨g, 0, none⟩) m cap)) (hy : ev e y = some (.slice (some ⟨q, o, none⟩) k c)) (ht : elemB P t = some el) (hi : P.info? el = some i) (hz : i.zero = some z)
    (hsize : i.size = size) (hby : i.bytes = bytes) (hzs : z.cells.size = size) (hsz : 0 < size) (hT : Take (Row g l0 el) σ F) (hq : Rd ρ F q (.cells l.toArray el' fr))
    (h2 : m ≤ cap) (h3 : cap ≤ maxLen) (h4 : l0.length = cap * size) (h5 : l0.take (m * size) = xs)
    (hn : (l.drop o).take (k * size) = news) (hl : news.length = k * size) (h1 : ∀ u ∈ news, one u = true) (hs : m + k = s) (hys : xs ++ news = ys) (h0 : 0 < s) (h63 : s ≤ maxLen) (hbytes : s * bytes ≤ 140737488355328) (hd : Nat.blt d n = true)
    (hk : ∀ g' cap' spare' w1, s ≤ cap' → cap' ≤ maxLen → spare'.length = (cap' - s) * size → St we ρ (Row g' (ys ++ spare') el :: F) w1 → K ((d, .slice (some ⟨g', 0, none⟩) s cap') :: e) w1) :
    OP P n ⟨some d, .call { callee := .builtin .append, args := #[x, y], argTypes := #[t, t] }, ty, pos, aft, gd⟩ e w K := by
  subst hs
  subst hys
  refine OP.append (size := size) (bytes := bytes) (k := k) (news := news) (vec_shut (hS.take hT) h2 h3 h4 h5) hx hy ht hi hz hsize hby hzs hsz .head hq hn hl h1 h63 hbytes hd (fun v' w1 h => ?_)
  obtain ⟨-, ⟨-, hz, -⟩ | ⟨r', cap', spare', rfl, k1, k2, k3, hS⟩⟩ := vec_open h
  · omega
  · exact hk _ _ _ _ k1 k2 k3 hS
end
end Go.Proofs.Ythejfodjielahaa
