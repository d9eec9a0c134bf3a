/-
  No cell of these rows narrows 'for every input' (looked for: loops, veiled, ifaces, maps, wideKeys, modest, calm, conditions, laid).
  DERIVED. THE GIVEN ROWS OF THIS SEAT. 4 by the template 'for every input the law returns true; each argument reads behind the call as it read before'; 0 by the template 'total and deterministic' (their statements: YtkcmjjgojpenoaaTotals.lean).
  GIVEN WITH THE SEED: the statements are not yours to turn. If you find one false, say at which input.
  Laid BY PROGRAM, IN A SANDBOX (cutbox-rows.mjs): the forced cells as the released guide's own fill.sh prints them over the translation 7ede3c3e6f8a3861… (all of the seat's roots in one cut). By AI agents, Wed Nov 11 2026. No macro, syntax, notation, axiom, sorry.
-/
import Derived.Test.YtkcmjjgojpenoaaChecked
import GoSem.Claim
import GoSem.ClaimJoined
import GoSem.ClaimMapViews
import Derived.JoinedTies
import Derived.KernelRfl
namespace Go.Proofs.Ytkcmjjgojpenoaa
/- THE CELL 'sum', in the pinned program and in every row, IS THE sha256 OF THE DUMP (.gsa) THAT YtkcmjjgojpenoaaProg.lean LOADS. Nothing in Lean hashes anything: it is a label: what it is worth is what the hold of that sum in a sandbox is worth. -/
noncomputable def Try.pinned : Pinned := { name := "ytkcmjjgojpenoaa", sum := "7ede3c3e6f8a38616d483d26d0936d856b7895bf18623b0f476ebe4f226dceba", checked := Try.checked }
namespace Rows
def none {H : Type} : Left H := { results := [], args := [] }

/-- 'undertonelaw14.StoreOthers': WHATEVER THE INPUT: true; the input reads as it did. -/
def storeOthersSpec : ChangeSpec := { name := "storeOthers", fn := fun _ => fun
  | [d] => { results := [.lit (.bool true)], args := [d] }
  | _ => none }
def storeOthersRow : OpenClaim := { program := "ytkcmjjgojpenoaa", sum := "7ede3c3e6f8a38616d483d26d0936d856b7895bf18623b0f476ebe4f226dceba", func := "undertone/undertonelaw14.StoreOthers", spec := "storeOthers", apart := false }
def StoreOthersSaid : Prop := storeOthersRow.holds Try.pinned (OpenSpec.ofChange storeOthersSpec)

/-- ITS FALSE NEIGHBOUR: 'it returns false'. Refute it at one input. -/
def storeOthersWrong : ChangeSpec := { name := "storeOthers", fn := fun _ => fun
  | [d] => { results := [.lit (.bool false)], args := [d] }
  | _ => none }
def StoreOthersWrongFalsely : Prop := storeOthersRow.holds Try.pinned (OpenSpec.ofChange storeOthersWrong)

/-- 'undertonelaw14.StoreKeeps': WHATEVER THE INPUT: true; the input reads as it did. -/
def storeKeepsSpec : ChangeSpec := { name := "storeKeeps", fn := fun _ => fun
  | [d1, d2] => { results := [.lit (.bool true)], args := [d1, d2] }
  | _ => none }
def storeKeepsRow : OpenClaim := { program := "ytkcmjjgojpenoaa", sum := "7ede3c3e6f8a38616d483d26d0936d856b7895bf18623b0f476ebe4f226dceba", func := "undertone/undertonelaw14.StoreKeeps", spec := "storeKeeps", apart := false }
def StoreKeepsSaid : Prop := storeKeepsRow.holds Try.pinned (OpenSpec.ofChange storeKeepsSpec)

/-- ITS FALSE NEIGHBOUR: 'it returns false'. Refute it at one input. -/
def storeKeepsWrong : ChangeSpec := { name := "storeKeeps", fn := fun _ => fun
  | [d1, d2] => { results := [.lit (.bool false)], args := [d1, d2] }
  | _ => none }
def StoreKeepsWrongFalsely : Prop := storeKeepsRow.holds Try.pinned (OpenSpec.ofChange storeKeepsWrong)

/-- 'undertonelaw14.StoreDrops': WHATEVER THE INPUT: true; the input reads as it did. -/
def storeDropsSpec : ChangeSpec := { name := "storeDrops", fn := fun _ => fun
  | [d1, d2, d3, d4] => { results := [.lit (.bool true)], args := [d1, d2, d3, d4] }
  | _ => none }
def storeDropsRow : OpenClaim := { program := "ytkcmjjgojpenoaa", sum := "7ede3c3e6f8a38616d483d26d0936d856b7895bf18623b0f476ebe4f226dceba", func := "undertone/undertonelaw14.StoreDrops", spec := "storeDrops", unfollowed := true, recurses := true, apart := false }
def StoreDropsSaid : Prop := storeDropsRow.holds Try.pinned (OpenSpec.ofChange storeDropsSpec)

/-- ITS FALSE NEIGHBOUR: 'it returns false'. Refute it at one input. -/
def storeDropsWrong : ChangeSpec := { name := "storeDrops", fn := fun _ => fun
  | [d1, d2, d3, d4] => { results := [.lit (.bool false)], args := [d1, d2, d3, d4] }
  | _ => none }
def StoreDropsWrongFalsely : Prop := storeDropsRow.holds Try.pinned (OpenSpec.ofChange storeDropsWrong)

/-- 'undertonelaw14.StoreCopies': WHATEVER THE INPUT: true; the input reads as it did. -/
def storeCopiesSpec : ChangeSpec := { name := "storeCopies", fn := fun _ => fun
  | [d1, d2, d3] => { results := [.lit (.bool true)], args := [d1, d2, d3] }
  | _ => none }
def storeCopiesRow : OpenClaim := { program := "ytkcmjjgojpenoaa", sum := "7ede3c3e6f8a38616d483d26d0936d856b7895bf18623b0f476ebe4f226dceba", func := "undertone/undertonelaw14.StoreCopies", spec := "storeCopies", inPlace := ["maps.clone"], unfollowed := true, recurses := true, apart := false }
def StoreCopiesSaid : Prop := storeCopiesRow.holds Try.pinned (OpenSpec.ofChange storeCopiesSpec)

/-- ITS FALSE NEIGHBOUR: 'it returns false'. Refute it at one input. -/
def storeCopiesWrong : ChangeSpec := { name := "storeCopies", fn := fun _ => fun
  | [d1, d2, d3] => { results := [.lit (.bool false)], args := [d1, d2, d3] }
  | _ => none }
def StoreCopiesWrongFalsely : Prop := storeCopiesRow.holds Try.pinned (OpenSpec.ofChange storeCopiesWrong)

/- THE SECOND FORM. 'bulk': how many values and letters a reading holds, each counted each time it is reached (what is shared counts as often as it is met; a slice's spare places count too). A statement '..UptoSaid' is the law's where the arguments, and the package variables that the reading takes, are together of bulk at most 1048576: NARROWER than '..Said'. Prove '..Said' where nothing that the law and all that it calls make is longer than what came in: it says more and counts as full. Else prove '..UptoSaid'. A law counts once. -/
mutual
def uptoBulk {H : Type} : DataW H → Nat
  | .lit (.string bytes) => bytes.length + 1
  | .lit _ => 1
  | .nil => 1
  | .ptr d => uptoBulk d + 1
  | .slice elems spare => uptoBulkAll elems + uptoBulkAll spare + 1
  | .agg parts => uptoBulkAll parts + 1
  | .iface _ d => uptoBulk d + 1
  | .map entries => uptoBulkEntries entries + 1
  | .held _ => 1
def uptoBulkAll {H : Type} : List (DataW H) → Nat
  | [] => 0
  | d :: r => uptoBulk d + uptoBulkAll r
def uptoBulkEntries {H : Type} : List (Lit × DataW H) → Nat
  | [] => 0
  | x :: r => uptoBulkEntry x + uptoBulkEntries r
def uptoBulkEntry {H : Type} : Lit × DataW H → Nat
  | (.string bytes, d) => bytes.length + uptoBulk d + 1
  | (_, d) => uptoBulk d + 1
 end
def uptoSmall : (H : Type) → List (DataW H) → Bool := fun _ ds => decide (uptoBulkAll ds ≤ 1048576)
def OpenSpec.upto (s : _root_.Go.ChangeSpec) : _root_.Go.OpenSpec := { _root_.Go.OpenSpec.ofChange s with cond := some uptoSmall }

/-- 'undertonelaw14.StoreOthers', WHERE WHAT IT READS IS OF BULK AT MOST 1048576: true; the input reads as it did. -/
def storeOthersUptoRow : OpenClaim := { program := "ytkcmjjgojpenoaa", sum := "7ede3c3e6f8a38616d483d26d0936d856b7895bf18623b0f476ebe4f226dceba", func := "undertone/undertonelaw14.StoreOthers", spec := "storeOthers", apart := false, narrowed := true }
def StoreOthersUptoSaid : Prop := storeOthersUptoRow.holds Try.pinned (OpenSpec.upto storeOthersSpec)

/-- 'undertonelaw14.StoreKeeps', WHERE WHAT IT READS IS OF BULK AT MOST 1048576: true; the input reads as it did. -/
def storeKeepsUptoRow : OpenClaim := { program := "ytkcmjjgojpenoaa", sum := "7ede3c3e6f8a38616d483d26d0936d856b7895bf18623b0f476ebe4f226dceba", func := "undertone/undertonelaw14.StoreKeeps", spec := "storeKeeps", apart := false, narrowed := true }
def StoreKeepsUptoSaid : Prop := storeKeepsUptoRow.holds Try.pinned (OpenSpec.upto storeKeepsSpec)

/-- 'undertonelaw14.StoreDrops', WHERE WHAT IT READS IS OF BULK AT MOST 1048576: true; the input reads as it did. -/
def storeDropsUptoRow : OpenClaim := { program := "ytkcmjjgojpenoaa", sum := "7ede3c3e6f8a38616d483d26d0936d856b7895bf18623b0f476ebe4f226dceba", func := "undertone/undertonelaw14.StoreDrops", spec := "storeDrops", unfollowed := true, recurses := true, apart := false, narrowed := true }
def StoreDropsUptoSaid : Prop := storeDropsUptoRow.holds Try.pinned (OpenSpec.upto storeDropsSpec)

/-- 'undertonelaw14.StoreCopies', WHERE WHAT IT READS IS OF BULK AT MOST 1048576: true; the input reads as it did. -/
def storeCopiesUptoRow : OpenClaim := { program := "ytkcmjjgojpenoaa", sum := "7ede3c3e6f8a38616d483d26d0936d856b7895bf18623b0f476ebe4f226dceba", func := "undertone/undertonelaw14.StoreCopies", spec := "storeCopies", inPlace := ["maps.clone"], unfollowed := true, recurses := true, apart := false, narrowed := true }
def StoreCopiesUptoSaid : Prop := storeCopiesUptoRow.holds Try.pinned (OpenSpec.upto storeCopiesSpec)

end Rows
end Go.Proofs.Ytkcmjjgojpenoaa
