/-
  No cell of these rows narrows 'for every input' (looked for: loops, veiled, ifaces, maps, wideKeys, modest, calm, conditions, laid).
  DERIVED. THE GIVEN ROWS OF THIS SEAT. 6 by the template 'for every input the law returns true; each argument reads behind the call as it read before'; 0 by the template 'total and deterministic' (their statements: YtjhknlmjdhdlpaaTotals.lean).
  GIVEN WITH THE SEED: the statements are not yours to turn. If you find one false, say at which input.
  Laid BY PROGRAM, IN A SANDBOX (cutbox-rows.mjs): the forced cells as the released guide's own fill.sh prints them over the translation 117b374b189401c1… (all of the seat's roots in one cut). By AI agents, Wed Nov 11 2026. No macro, syntax, notation, axiom, sorry.
-/
import Derived.Test.YtjhknlmjdhdlpaaChecked
import GoSem.Claim
import GoSem.ClaimJoined
import GoSem.ClaimMapViews
import Derived.JoinedTies
import Derived.KernelRfl
namespace Go.Proofs.Ytjhknlmjdhdlpaa
/- THE CELL 'sum', in the pinned program and in every row, IS THE sha256 OF THE DUMP (.gsa) THAT YtjhknlmjdhdlpaaProg.lean LOADS. Nothing in Lean hashes anything: it is a label: what it is worth is what the hold of that sum in a sandbox is worth. -/
noncomputable def Try.pinned : Pinned := { name := "ytjhknlmjdhdlpaa", sum := "117b374b189401c1d6ab7903e1be3839746ff5ad12e5155f0179078e7e8f675d", checked := Try.checked }
namespace Rows
def none {H : Type} : Left H := { results := [], args := [] }

/-- 'undertonelaw01.TermCompares': WHATEVER THE INPUT: true; the input reads as it did. -/
def termComparesSpec : ChangeSpec := { name := "termCompares", fn := fun _ => fun
  | [d1, d2, d3, d4] => { results := [.lit (.bool true)], args := [d1, d2, d3, d4] }
  | _ => none }
def termComparesRow : OpenClaim := { program := "ytjhknlmjdhdlpaa", sum := "117b374b189401c1d6ab7903e1be3839746ff5ad12e5155f0179078e7e8f675d", func := "undertone/undertonelaw01.TermCompares", spec := "termCompares", unfollowed := true, recurses := true, plainKeys := false, apart := false }
def TermComparesSaid : Prop := termComparesRow.holds Try.pinned (OpenSpec.ofChange termComparesSpec)

/-- ITS FALSE NEIGHBOUR: 'it returns false'. Refute it at one input. -/
def termComparesWrong : ChangeSpec := { name := "termCompares", fn := fun _ => fun
  | [d1, d2, d3, d4] => { results := [.lit (.bool false)], args := [d1, d2, d3, d4] }
  | _ => none }
def TermComparesWrongFalsely : Prop := termComparesRow.holds Try.pinned (OpenSpec.ofChange termComparesWrong)

/-- 'undertonelaw01.TermShares': WHATEVER THE INPUT: true; the input reads as it did. -/
def termSharesSpec : ChangeSpec := { name := "termShares", fn := fun _ => fun
  | [d1, d2, d3, d4] => { results := [.lit (.bool true)], args := [d1, d2, d3, d4] }
  | _ => none }
def termSharesRow : OpenClaim := { program := "ytjhknlmjdhdlpaa", sum := "117b374b189401c1d6ab7903e1be3839746ff5ad12e5155f0179078e7e8f675d", func := "undertone/undertonelaw01.TermShares", spec := "termShares", unfollowed := true, recurses := true, plainKeys := false, apart := false }
def TermSharesSaid : Prop := termSharesRow.holds Try.pinned (OpenSpec.ofChange termSharesSpec)

/-- ITS FALSE NEIGHBOUR: 'it returns false'. Refute it at one input. -/
def termSharesWrong : ChangeSpec := { name := "termShares", fn := fun _ => fun
  | [d1, d2, d3, d4] => { results := [.lit (.bool false)], args := [d1, d2, d3, d4] }
  | _ => none }
def TermSharesWrongFalsely : Prop := termSharesRow.holds Try.pinned (OpenSpec.ofChange termSharesWrong)

/-- 'undertonelaw01.TermGrows': WHATEVER THE INPUT: true; the input reads as it did. -/
def termGrowsSpec : ChangeSpec := { name := "termGrows", fn := fun _ => fun
  | [d] => { results := [.lit (.bool true)], args := [d] }
  | _ => none }
def termGrowsRow : OpenClaim := { program := "ytjhknlmjdhdlpaa", sum := "117b374b189401c1d6ab7903e1be3839746ff5ad12e5155f0179078e7e8f675d", func := "undertone/undertonelaw01.TermGrows", spec := "termGrows", unfollowed := true, recurses := true, plainKeys := false, apart := false }
def TermGrowsSaid : Prop := termGrowsRow.holds Try.pinned (OpenSpec.ofChange termGrowsSpec)

/-- ITS FALSE NEIGHBOUR: 'it returns false'. Refute it at one input. -/
def termGrowsWrong : ChangeSpec := { name := "termGrows", fn := fun _ => fun
  | [d] => { results := [.lit (.bool false)], args := [d] }
  | _ => none }
def TermGrowsWrongFalsely : Prop := termGrowsRow.holds Try.pinned (OpenSpec.ofChange termGrowsWrong)

/-- 'undertonelaw01.TermNumbers': WHATEVER THE INPUT: true; the input reads as it did. -/
def termNumbersSpec : ChangeSpec := { name := "termNumbers", fn := fun _ => fun
  | [d1, d2] => { results := [.lit (.bool true)], args := [d1, d2] }
  | _ => none }
def termNumbersRow : OpenClaim := { program := "ytjhknlmjdhdlpaa", sum := "117b374b189401c1d6ab7903e1be3839746ff5ad12e5155f0179078e7e8f675d", func := "undertone/undertonelaw01.TermNumbers", spec := "termNumbers", unfollowed := true, recurses := true, plainKeys := false, apart := false }
def TermNumbersSaid : Prop := termNumbersRow.holds Try.pinned (OpenSpec.ofChange termNumbersSpec)

/-- ITS FALSE NEIGHBOUR: 'it returns false'. Refute it at one input. -/
def termNumbersWrong : ChangeSpec := { name := "termNumbers", fn := fun _ => fun
  | [d1, d2] => { results := [.lit (.bool false)], args := [d1, d2] }
  | _ => none }
def TermNumbersWrongFalsely : Prop := termNumbersRow.holds Try.pinned (OpenSpec.ofChange termNumbersWrong)

/-- 'undertonelaw01.TermFinds': WHATEVER THE INPUT: true; the input reads as it did. -/
def termFindsSpec : ChangeSpec := { name := "termFinds", fn := fun _ => fun
  | [d1, d2] => { results := [.lit (.bool true)], args := [d1, d2] }
  | _ => none }
def termFindsRow : OpenClaim := { program := "ytjhknlmjdhdlpaa", sum := "117b374b189401c1d6ab7903e1be3839746ff5ad12e5155f0179078e7e8f675d", func := "undertone/undertonelaw01.TermFinds", spec := "termFinds", unfollowed := true, recurses := true, plainKeys := false, apart := false }
def TermFindsSaid : Prop := termFindsRow.holds Try.pinned (OpenSpec.ofChange termFindsSpec)

/-- ITS FALSE NEIGHBOUR: 'it returns false'. Refute it at one input. -/
def termFindsWrong : ChangeSpec := { name := "termFinds", fn := fun _ => fun
  | [d1, d2] => { results := [.lit (.bool false)], args := [d1, d2] }
  | _ => none }
def TermFindsWrongFalsely : Prop := termFindsRow.holds Try.pinned (OpenSpec.ofChange termFindsWrong)

/-- 'undertonelaw01.TermCopies': WHATEVER THE INPUT: true; the input reads as it did. -/
def termCopiesSpec : ChangeSpec := { name := "termCopies", fn := fun _ => fun
  | [d1, d2] => { results := [.lit (.bool true)], args := [d1, d2] }
  | _ => none }
def termCopiesRow : OpenClaim := { program := "ytjhknlmjdhdlpaa", sum := "117b374b189401c1d6ab7903e1be3839746ff5ad12e5155f0179078e7e8f675d", func := "undertone/undertonelaw01.TermCopies", spec := "termCopies", inPlace := ["maps.clone"], unfollowed := true, recurses := true, plainKeys := false, apart := false }
def TermCopiesSaid : Prop := termCopiesRow.holds Try.pinned (OpenSpec.ofChange termCopiesSpec)

/-- ITS FALSE NEIGHBOUR: 'it returns false'. Refute it at one input. -/
def termCopiesWrong : ChangeSpec := { name := "termCopies", fn := fun _ => fun
  | [d1, d2] => { results := [.lit (.bool false)], args := [d1, d2] }
  | _ => none }
def TermCopiesWrongFalsely : Prop := termCopiesRow.holds Try.pinned (OpenSpec.ofChange termCopiesWrong)

/- THE SECOND FORM. 'bulk': how many values and letters a reading holds, each counted each time it is reached (what is shared counts as often as it is met; a slice's spare places count too). A statement '..UptoSaid' is the law's where the arguments, and the package variables that the reading takes, are together of bulk at most 1048576: NARROWER than '..Said'. Prove '..Said' where nothing that the law and all that it calls make is longer than what came in: it says more and counts as full. Else prove '..UptoSaid'. A law counts once. -/
mutual
def uptoBulk {H : Type} : DataW H → Nat
  | .lit (.string bytes) => bytes.length + 1
  | .lit _ => 1
  | .nil => 1
  | .ptr d => uptoBulk d + 1
  | .slice elems spare => uptoBulkAll elems + uptoBulkAll spare + 1
  | .agg parts => uptoBulkAll parts + 1
  | .iface _ d => uptoBulk d + 1
  | .map entries => uptoBulkEntries entries + 1
  | .held _ => 1
def uptoBulkAll {H : Type} : List (DataW H) → Nat
  | [] => 0
  | d :: r => uptoBulk d + uptoBulkAll r
def uptoBulkEntries {H : Type} : List (Lit × DataW H) → Nat
  | [] => 0
  | x :: r => uptoBulkEntry x + uptoBulkEntries r
def uptoBulkEntry {H : Type} : Lit × DataW H → Nat
  | (.string bytes, d) => bytes.length + uptoBulk d + 1
  | (_, d) => uptoBulk d + 1
 end
def uptoSmall : (H : Type) → List (DataW H) → Bool := fun _ ds => decide (uptoBulkAll ds ≤ 1048576)
def OpenSpec.upto (s : _root_.Go.ChangeSpec) : _root_.Go.OpenSpec := { _root_.Go.OpenSpec.ofChange s with cond := some uptoSmall }

/-- 'undertonelaw01.TermCompares', WHERE WHAT IT READS IS OF BULK AT MOST 1048576: true; the input reads as it did. -/
def termComparesUptoRow : OpenClaim := { program := "ytjhknlmjdhdlpaa", sum := "117b374b189401c1d6ab7903e1be3839746ff5ad12e5155f0179078e7e8f675d", func := "undertone/undertonelaw01.TermCompares", spec := "termCompares", unfollowed := true, recurses := true, plainKeys := false, apart := false, narrowed := true }
def TermComparesUptoSaid : Prop := termComparesUptoRow.holds Try.pinned (OpenSpec.upto termComparesSpec)

/-- 'undertonelaw01.TermShares', WHERE WHAT IT READS IS OF BULK AT MOST 1048576: true; the input reads as it did. -/
def termSharesUptoRow : OpenClaim := { program := "ytjhknlmjdhdlpaa", sum := "117b374b189401c1d6ab7903e1be3839746ff5ad12e5155f0179078e7e8f675d", func := "undertone/undertonelaw01.TermShares", spec := "termShares", unfollowed := true, recurses := true, plainKeys := false, apart := false, narrowed := true }
def TermSharesUptoSaid : Prop := termSharesUptoRow.holds Try.pinned (OpenSpec.upto termSharesSpec)

/-- 'undertonelaw01.TermGrows', WHERE WHAT IT READS IS OF BULK AT MOST 1048576: true; the input reads as it did. -/
def termGrowsUptoRow : OpenClaim := { program := "ytjhknlmjdhdlpaa", sum := "117b374b189401c1d6ab7903e1be3839746ff5ad12e5155f0179078e7e8f675d", func := "undertone/undertonelaw01.TermGrows", spec := "termGrows", unfollowed := true, recurses := true, plainKeys := false, apart := false, narrowed := true }
def TermGrowsUptoSaid : Prop := termGrowsUptoRow.holds Try.pinned (OpenSpec.upto termGrowsSpec)

/-- 'undertonelaw01.TermNumbers', WHERE WHAT IT READS IS OF BULK AT MOST 1048576: true; the input reads as it did. -/
def termNumbersUptoRow : OpenClaim := { program := "ytjhknlmjdhdlpaa", sum := "117b374b189401c1d6ab7903e1be3839746ff5ad12e5155f0179078e7e8f675d", func := "undertone/undertonelaw01.TermNumbers", spec := "termNumbers", unfollowed := true, recurses := true, plainKeys := false, apart := false, narrowed := true }
def TermNumbersUptoSaid : Prop := termNumbersUptoRow.holds Try.pinned (OpenSpec.upto termNumbersSpec)

/-- 'undertonelaw01.TermFinds', WHERE WHAT IT READS IS OF BULK AT MOST 1048576: true; the input reads as it did. -/
def termFindsUptoRow : OpenClaim := { program := "ytjhknlmjdhdlpaa", sum := "117b374b189401c1d6ab7903e1be3839746ff5ad12e5155f0179078e7e8f675d", func := "undertone/undertonelaw01.TermFinds", spec := "termFinds", unfollowed := true, recurses := true, plainKeys := false, apart := false, narrowed := true }
def TermFindsUptoSaid : Prop := termFindsUptoRow.holds Try.pinned (OpenSpec.upto termFindsSpec)

/-- 'undertonelaw01.TermCopies', WHERE WHAT IT READS IS OF BULK AT MOST 1048576: true; the input reads as it did. -/
def termCopiesUptoRow : OpenClaim := { program := "ytjhknlmjdhdlpaa", sum := "117b374b189401c1d6ab7903e1be3839746ff5ad12e5155f0179078e7e8f675d", func := "undertone/undertonelaw01.TermCopies", spec := "termCopies", inPlace := ["maps.clone"], unfollowed := true, recurses := true, plainKeys := false, apart := false, narrowed := true }
def TermCopiesUptoSaid : Prop := termCopiesUptoRow.holds Try.pinned (OpenSpec.upto termCopiesSpec)

end Rows
end Go.Proofs.Ytjhknlmjdhdlpaa
