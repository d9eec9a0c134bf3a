/-
  No cell of these rows narrows 'for every input' (looked for: loops, veiled, ifaces, maps, wideKeys, modest, calm, conditions, laid).
  DERIVED. THE GIVEN ROWS OF THIS SEAT. 4 by the template 'for every input the law returns true; each argument reads behind the call as it read before'; 0 by the template 'total and deterministic' (their statements: YtcipboenhfakoaaTotals.lean).
  GIVEN WITH THE SEED: the statements are not yours to turn. If you find one false, say at which input.
  Laid BY PROGRAM, IN A SANDBOX (cutbox-rows.mjs): the forced cells as the released guide's own fill.sh prints them over the translation d6282830deed2ece… (all of the seat's roots in one cut). By AI agents, Wed Nov 11 2026. No macro, syntax, notation, axiom, sorry.
-/
import Derived.Test.YtcipboenhfakoaaChecked
import GoSem.Claim
import GoSem.ClaimJoined
import GoSem.ClaimMapViews
import Derived.JoinedTies
import Derived.KernelRfl
namespace Go.Proofs.Ytcipboenhfakoaa
/- THE CELL 'sum', in the pinned program and in every row, IS THE sha256 OF THE DUMP (.gsa) THAT YtcipboenhfakoaaProg.lean LOADS. Nothing in Lean hashes anything: it is a label: what it is worth is what the hold of that sum in a sandbox is worth. -/
noncomputable def Try.pinned : Pinned := { name := "ytcipboenhfakoaa", sum := "d6282830deed2eceecae8102734a1708db79853c43fe11c11714c97756c89652", checked := Try.checked }
namespace Rows
def none {H : Type} : Left H := { results := [], args := [] }

/-- 'undertonelaw11.SymNames': WHATEVER THE INPUT: true; the input reads as it did. -/
def symNamesSpec : ChangeSpec := { name := "symNames", fn := fun _ => fun
  | [d1, d2, d3] => { results := [.lit (.bool true)], args := [d1, d2, d3] }
  | _ => none }
def symNamesRow : OpenClaim := { program := "ytcipboenhfakoaa", sum := "d6282830deed2eceecae8102734a1708db79853c43fe11c11714c97756c89652", func := "undertone/undertonelaw11.SymNames", spec := "symNames", unfollowed := true, recurses := true, plainKeys := false, apart := false }
def SymNamesSaid : Prop := symNamesRow.holds Try.pinned (OpenSpec.ofChange symNamesSpec)

/-- ITS FALSE NEIGHBOUR: 'it returns false'. Refute it at one input. -/
def symNamesWrong : ChangeSpec := { name := "symNames", fn := fun _ => fun
  | [d1, d2, d3] => { results := [.lit (.bool false)], args := [d1, d2, d3] }
  | _ => none }
def SymNamesWrongFalsely : Prop := symNamesRow.holds Try.pinned (OpenSpec.ofChange symNamesWrong)

/-- 'undertonelaw11.SymSplits': WHATEVER THE INPUT: true; the input reads as it did. -/
def symSplitsSpec : ChangeSpec := { name := "symSplits", fn := fun _ => fun
  | [d1, d2, d3] => { results := [.lit (.bool true)], args := [d1, d2, d3] }
  | _ => none }
def symSplitsRow : OpenClaim := { program := "ytcipboenhfakoaa", sum := "d6282830deed2eceecae8102734a1708db79853c43fe11c11714c97756c89652", func := "undertone/undertonelaw11.SymSplits", spec := "symSplits", unfollowed := true, recurses := true, plainKeys := false, apart := false }
def SymSplitsSaid : Prop := symSplitsRow.holds Try.pinned (OpenSpec.ofChange symSplitsSpec)

/-- ITS FALSE NEIGHBOUR: 'it returns false'. Refute it at one input. -/
def symSplitsWrong : ChangeSpec := { name := "symSplits", fn := fun _ => fun
  | [d1, d2, d3] => { results := [.lit (.bool false)], args := [d1, d2, d3] }
  | _ => none }
def SymSplitsWrongFalsely : Prop := symSplitsRow.holds Try.pinned (OpenSpec.ofChange symSplitsWrong)

/-- 'undertonelaw11.SymApart': WHATEVER THE INPUT: true; the input reads as it did. -/
def symApartSpec : ChangeSpec := { name := "symApart", fn := fun _ => fun
  | [d1, d2, d3, d4] => { results := [.lit (.bool true)], args := [d1, d2, d3, d4] }
  | _ => none }
def symApartRow : OpenClaim := { program := "ytcipboenhfakoaa", sum := "d6282830deed2eceecae8102734a1708db79853c43fe11c11714c97756c89652", func := "undertone/undertonelaw11.SymApart", spec := "symApart", unfollowed := true, recurses := true, plainKeys := false, apart := false }
def SymApartSaid : Prop := symApartRow.holds Try.pinned (OpenSpec.ofChange symApartSpec)

/-- ITS FALSE NEIGHBOUR: 'it returns false'. Refute it at one input. -/
def symApartWrong : ChangeSpec := { name := "symApart", fn := fun _ => fun
  | [d1, d2, d3, d4] => { results := [.lit (.bool false)], args := [d1, d2, d3, d4] }
  | _ => none }
def SymApartWrongFalsely : Prop := symApartRow.holds Try.pinned (OpenSpec.ofChange symApartWrong)

/-- 'undertonelaw11.SymBoth': WHATEVER THE INPUT: true; the input reads as it did. -/
def symBothSpec : ChangeSpec := { name := "symBoth", fn := fun _ => fun
  | [d1, d2] => { results := [.lit (.bool true)], args := [d1, d2] }
  | _ => none }
def symBothRow : OpenClaim := { program := "ytcipboenhfakoaa", sum := "d6282830deed2eceecae8102734a1708db79853c43fe11c11714c97756c89652", func := "undertone/undertonelaw11.SymBoth", spec := "symBoth", unfollowed := true, recurses := true, plainKeys := false, apart := false }
def SymBothSaid : Prop := symBothRow.holds Try.pinned (OpenSpec.ofChange symBothSpec)

/-- ITS FALSE NEIGHBOUR: 'it returns false'. Refute it at one input. -/
def symBothWrong : ChangeSpec := { name := "symBoth", fn := fun _ => fun
  | [d1, d2] => { results := [.lit (.bool false)], args := [d1, d2] }
  | _ => none }
def SymBothWrongFalsely : Prop := symBothRow.holds Try.pinned (OpenSpec.ofChange symBothWrong)

/- THE SECOND FORM. 'bulk': how many values and letters a reading holds, each counted each time it is reached (what is shared counts as often as it is met; a slice's spare places count too). A statement '..UptoSaid' is the law's where the arguments, and the package variables that the reading takes, are together of bulk at most 1048576: NARROWER than '..Said'. Prove '..Said' where nothing that the law and all that it calls make is longer than what came in: it says more and counts as full. Else prove '..UptoSaid'. A law counts once. -/
mutual
def uptoBulk {H : Type} : DataW H → Nat
  | .lit (.string bytes) => bytes.length + 1
  | .lit _ => 1
  | .nil => 1
  | .ptr d => uptoBulk d + 1
  | .slice elems spare => uptoBulkAll elems + uptoBulkAll spare + 1
  | .agg parts => uptoBulkAll parts + 1
  | .iface _ d => uptoBulk d + 1
  | .map entries => uptoBulkEntries entries + 1
  | .held _ => 1
def uptoBulkAll {H : Type} : List (DataW H) → Nat
  | [] => 0
  | d :: r => uptoBulk d + uptoBulkAll r
def uptoBulkEntries {H : Type} : List (Lit × DataW H) → Nat
  | [] => 0
  | x :: r => uptoBulkEntry x + uptoBulkEntries r
def uptoBulkEntry {H : Type} : Lit × DataW H → Nat
  | (.string bytes, d) => bytes.length + uptoBulk d + 1
  | (_, d) => uptoBulk d + 1
 end
def uptoSmall : (H : Type) → List (DataW H) → Bool := fun _ ds => decide (uptoBulkAll ds ≤ 1048576)
def OpenSpec.upto (s : _root_.Go.ChangeSpec) : _root_.Go.OpenSpec := { _root_.Go.OpenSpec.ofChange s with cond := some uptoSmall }

/-- 'undertonelaw11.SymNames', WHERE WHAT IT READS IS OF BULK AT MOST 1048576: true; the input reads as it did. -/
def symNamesUptoRow : OpenClaim := { program := "ytcipboenhfakoaa", sum := "d6282830deed2eceecae8102734a1708db79853c43fe11c11714c97756c89652", func := "undertone/undertonelaw11.SymNames", spec := "symNames", unfollowed := true, recurses := true, plainKeys := false, apart := false, narrowed := true }
def SymNamesUptoSaid : Prop := symNamesUptoRow.holds Try.pinned (OpenSpec.upto symNamesSpec)

/-- 'undertonelaw11.SymSplits', WHERE WHAT IT READS IS OF BULK AT MOST 1048576: true; the input reads as it did. -/
def symSplitsUptoRow : OpenClaim := { program := "ytcipboenhfakoaa", sum := "d6282830deed2eceecae8102734a1708db79853c43fe11c11714c97756c89652", func := "undertone/undertonelaw11.SymSplits", spec := "symSplits", unfollowed := true, recurses := true, plainKeys := false, apart := false, narrowed := true }
def SymSplitsUptoSaid : Prop := symSplitsUptoRow.holds Try.pinned (OpenSpec.upto symSplitsSpec)

/-- 'undertonelaw11.SymApart', WHERE WHAT IT READS IS OF BULK AT MOST 1048576: true; the input reads as it did. -/
def symApartUptoRow : OpenClaim := { program := "ytcipboenhfakoaa", sum := "d6282830deed2eceecae8102734a1708db79853c43fe11c11714c97756c89652", func := "undertone/undertonelaw11.SymApart", spec := "symApart", unfollowed := true, recurses := true, plainKeys := false, apart := false, narrowed := true }
def SymApartUptoSaid : Prop := symApartUptoRow.holds Try.pinned (OpenSpec.upto symApartSpec)

/-- 'undertonelaw11.SymBoth', WHERE WHAT IT READS IS OF BULK AT MOST 1048576: true; the input reads as it did. -/
def symBothUptoRow : OpenClaim := { program := "ytcipboenhfakoaa", sum := "d6282830deed2eceecae8102734a1708db79853c43fe11c11714c97756c89652", func := "undertone/undertonelaw11.SymBoth", spec := "symBoth", unfollowed := true, recurses := true, plainKeys := false, apart := false, narrowed := true }
def SymBothUptoSaid : Prop := symBothUptoRow.holds Try.pinned (OpenSpec.upto symBothSpec)

end Rows
end Go.Proofs.Ytcipboenhfakoaa
