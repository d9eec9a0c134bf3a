/-
  No cell of these rows narrows 'for every input' (looked for: loops, veiled, ifaces, maps, wideKeys, modest, calm, conditions, laid).
  DERIVED. THE GIVEN ROWS OF THIS SEAT. 6 by the template 'for every input the law returns true; each argument reads behind the call as it read before'; 0 by the template 'total and deterministic' (their statements: YtcigkkedffggiaaTotals.lean).
  GIVEN WITH THE SEED: the statements are not yours to turn. If you find one false, say at which input.
  Laid BY PROGRAM, IN A SANDBOX (cutbox-rows.mjs): the forced cells as the released guide's own fill.sh prints them over the translation 2c2a3b6f96e788ac… (all of the seat's roots in one cut). By AI agents, Wed Nov 11 2026. No macro, syntax, notation, axiom, sorry.
-/
import Derived.Test.YtcigkkedffggiaaChecked
import GoSem.Claim
import GoSem.ClaimJoined
import GoSem.ClaimMapViews
import Derived.JoinedTies
import Derived.KernelRfl
namespace Go.Proofs.Ytcigkkedffggiaa
/- THE CELL 'sum', in the pinned program and in every row, IS THE sha256 OF THE DUMP (.gsa) THAT YtcigkkedffggiaaProg.lean LOADS. Nothing in Lean hashes anything: it is a label: what it is worth is what the hold of that sum in a sandbox is worth. -/
noncomputable def Try.pinned : Pinned := { name := "ytcigkkedffggiaa", sum := "2c2a3b6f96e788ac07869067c466879f9027689d3102239b3d1030ee89a1dff9", checked := Try.checked }
namespace Rows
def none {H : Type} : Left H := { results := [], args := [] }

/-- 'undertonelaw18.TraceMixes': WHATEVER THE INPUT: true; the input reads as it did. -/
def traceMixesSpec : ChangeSpec := { name := "traceMixes", fn := fun _ => fun
  | [d1, d2] => { results := [.lit (.bool true)], args := [d1, d2] }
  | _ => none }
def traceMixesRow : OpenClaim := { program := "ytcigkkedffggiaa", sum := "2c2a3b6f96e788ac07869067c466879f9027689d3102239b3d1030ee89a1dff9", func := "undertone/undertonelaw18.TraceMixes", spec := "traceMixes", unfollowed := true, recurses := true, plainKeys := false, apart := false }
def TraceMixesSaid : Prop := traceMixesRow.holds Try.pinned (OpenSpec.ofChange traceMixesSpec)

/-- ITS FALSE NEIGHBOUR: 'it returns false'. Refute it at one input. -/
def traceMixesWrong : ChangeSpec := { name := "traceMixes", fn := fun _ => fun
  | [d1, d2] => { results := [.lit (.bool false)], args := [d1, d2] }
  | _ => none }
def TraceMixesWrongFalsely : Prop := traceMixesRow.holds Try.pinned (OpenSpec.ofChange traceMixesWrong)

/-- 'undertonelaw18.TraceHonest': WHATEVER THE INPUT: true; the input reads as it did. -/
def traceHonestSpec : ChangeSpec := { name := "traceHonest", fn := fun _ => fun
  | [d1, d2] => { results := [.lit (.bool true)], args := [d1, d2] }
  | _ => none }
def traceHonestRow : OpenClaim := { program := "ytcigkkedffggiaa", sum := "2c2a3b6f96e788ac07869067c466879f9027689d3102239b3d1030ee89a1dff9", func := "undertone/undertonelaw18.TraceHonest", spec := "traceHonest", unfollowed := true, recurses := true, plainKeys := false, apart := false }
def TraceHonestSaid : Prop := traceHonestRow.holds Try.pinned (OpenSpec.ofChange traceHonestSpec)

/-- ITS FALSE NEIGHBOUR: 'it returns false'. Refute it at one input. -/
def traceHonestWrong : ChangeSpec := { name := "traceHonest", fn := fun _ => fun
  | [d1, d2] => { results := [.lit (.bool false)], args := [d1, d2] }
  | _ => none }
def TraceHonestWrongFalsely : Prop := traceHonestRow.holds Try.pinned (OpenSpec.ofChange traceHonestWrong)

/-- 'undertonelaw18.TraceKeys': WHATEVER THE INPUT: true; the input reads as it did. -/
def traceKeysSpec : ChangeSpec := { name := "traceKeys", fn := fun _ => fun
  | [d1, d2] => { results := [.lit (.bool true)], args := [d1, d2] }
  | _ => none }
def traceKeysRow : OpenClaim := { program := "ytcigkkedffggiaa", sum := "2c2a3b6f96e788ac07869067c466879f9027689d3102239b3d1030ee89a1dff9", func := "undertone/undertonelaw18.TraceKeys", spec := "traceKeys", unfollowed := true, recurses := true, plainKeys := false, apart := false }
def TraceKeysSaid : Prop := traceKeysRow.holds Try.pinned (OpenSpec.ofChange traceKeysSpec)

/-- ITS FALSE NEIGHBOUR: 'it returns false'. Refute it at one input. -/
def traceKeysWrong : ChangeSpec := { name := "traceKeys", fn := fun _ => fun
  | [d1, d2] => { results := [.lit (.bool false)], args := [d1, d2] }
  | _ => none }
def TraceKeysWrongFalsely : Prop := traceKeysRow.holds Try.pinned (OpenSpec.ofChange traceKeysWrong)

/-- 'undertonelaw18.TraceJudges': WHATEVER THE INPUT: true; the input reads as it did. -/
def traceJudgesSpec : ChangeSpec := { name := "traceJudges", fn := fun _ => fun
  | [d1, d2, d3, d4] => { results := [.lit (.bool true)], args := [d1, d2, d3, d4] }
  | _ => none }
def traceJudgesRow : OpenClaim := { program := "ytcigkkedffggiaa", sum := "2c2a3b6f96e788ac07869067c466879f9027689d3102239b3d1030ee89a1dff9", func := "undertone/undertonelaw18.TraceJudges", spec := "traceJudges", unfollowed := true, recurses := true, plainKeys := false, apart := false }
def TraceJudgesSaid : Prop := traceJudgesRow.holds Try.pinned (OpenSpec.ofChange traceJudgesSpec)

/-- ITS FALSE NEIGHBOUR: 'it returns false'. Refute it at one input. -/
def traceJudgesWrong : ChangeSpec := { name := "traceJudges", fn := fun _ => fun
  | [d1, d2, d3, d4] => { results := [.lit (.bool false)], args := [d1, d2, d3, d4] }
  | _ => none }
def TraceJudgesWrongFalsely : Prop := traceJudgesRow.holds Try.pinned (OpenSpec.ofChange traceJudgesWrong)

/-- 'undertonelaw18.TraceOpens': WHATEVER THE INPUT: true; the input reads as it did. -/
def traceOpensSpec : ChangeSpec := { name := "traceOpens", fn := fun _ => fun
  | [d1, d2, d3, d4] => { results := [.lit (.bool true)], args := [d1, d2, d3, d4] }
  | _ => none }
def traceOpensRow : OpenClaim := { program := "ytcigkkedffggiaa", sum := "2c2a3b6f96e788ac07869067c466879f9027689d3102239b3d1030ee89a1dff9", func := "undertone/undertonelaw18.TraceOpens", spec := "traceOpens", unfollowed := true, recurses := true, plainKeys := false, apart := false }
def TraceOpensSaid : Prop := traceOpensRow.holds Try.pinned (OpenSpec.ofChange traceOpensSpec)

/-- ITS FALSE NEIGHBOUR: 'it returns false'. Refute it at one input. -/
def traceOpensWrong : ChangeSpec := { name := "traceOpens", fn := fun _ => fun
  | [d1, d2, d3, d4] => { results := [.lit (.bool false)], args := [d1, d2, d3, d4] }
  | _ => none }
def TraceOpensWrongFalsely : Prop := traceOpensRow.holds Try.pinned (OpenSpec.ofChange traceOpensWrong)

/-- 'undertonelaw18.TraceShort': WHATEVER THE INPUT: true; the input reads as it did. -/
def traceShortSpec : ChangeSpec := { name := "traceShort", fn := fun _ => fun
  | [d1, d2] => { results := [.lit (.bool true)], args := [d1, d2] }
  | _ => none }
def traceShortRow : OpenClaim := { program := "ytcigkkedffggiaa", sum := "2c2a3b6f96e788ac07869067c466879f9027689d3102239b3d1030ee89a1dff9", func := "undertone/undertonelaw18.TraceShort", spec := "traceShort", unfollowed := true, recurses := true, plainKeys := false, apart := false }
def TraceShortSaid : Prop := traceShortRow.holds Try.pinned (OpenSpec.ofChange traceShortSpec)

/-- ITS FALSE NEIGHBOUR: 'it returns false'. Refute it at one input. -/
def traceShortWrong : ChangeSpec := { name := "traceShort", fn := fun _ => fun
  | [d1, d2] => { results := [.lit (.bool false)], args := [d1, d2] }
  | _ => none }
def TraceShortWrongFalsely : Prop := traceShortRow.holds Try.pinned (OpenSpec.ofChange traceShortWrong)

/- THE SECOND FORM. 'bulk': how many values and letters a reading holds, each counted each time it is reached (what is shared counts as often as it is met; a slice's spare places count too). A statement '..UptoSaid' is the law's where the arguments, and the package variables that the reading takes, are together of bulk at most 1048576: NARROWER than '..Said'. Prove '..Said' where nothing that the law and all that it calls make is longer than what came in: it says more and counts as full. Else prove '..UptoSaid'. A law counts once. -/
mutual
def uptoBulk {H : Type} : DataW H → Nat
  | .lit (.string bytes) => bytes.length + 1
  | .lit _ => 1
  | .nil => 1
  | .ptr d => uptoBulk d + 1
  | .slice elems spare => uptoBulkAll elems + uptoBulkAll spare + 1
  | .agg parts => uptoBulkAll parts + 1
  | .iface _ d => uptoBulk d + 1
  | .map entries => uptoBulkEntries entries + 1
  | .held _ => 1
def uptoBulkAll {H : Type} : List (DataW H) → Nat
  | [] => 0
  | d :: r => uptoBulk d + uptoBulkAll r
def uptoBulkEntries {H : Type} : List (Lit × DataW H) → Nat
  | [] => 0
  | x :: r => uptoBulkEntry x + uptoBulkEntries r
def uptoBulkEntry {H : Type} : Lit × DataW H → Nat
  | (.string bytes, d) => bytes.length + uptoBulk d + 1
  | (_, d) => uptoBulk d + 1
 end
def uptoSmall : (H : Type) → List (DataW H) → Bool := fun _ ds => decide (uptoBulkAll ds ≤ 1048576)
def OpenSpec.upto (s : _root_.Go.ChangeSpec) : _root_.Go.OpenSpec := { _root_.Go.OpenSpec.ofChange s with cond := some uptoSmall }

/-- 'undertonelaw18.TraceMixes', WHERE WHAT IT READS IS OF BULK AT MOST 1048576: true; the input reads as it did. -/
def traceMixesUptoRow : OpenClaim := { program := "ytcigkkedffggiaa", sum := "2c2a3b6f96e788ac07869067c466879f9027689d3102239b3d1030ee89a1dff9", func := "undertone/undertonelaw18.TraceMixes", spec := "traceMixes", unfollowed := true, recurses := true, plainKeys := false, apart := false, narrowed := true }
def TraceMixesUptoSaid : Prop := traceMixesUptoRow.holds Try.pinned (OpenSpec.upto traceMixesSpec)

/-- 'undertonelaw18.TraceHonest', WHERE WHAT IT READS IS OF BULK AT MOST 1048576: true; the input reads as it did. -/
def traceHonestUptoRow : OpenClaim := { program := "ytcigkkedffggiaa", sum := "2c2a3b6f96e788ac07869067c466879f9027689d3102239b3d1030ee89a1dff9", func := "undertone/undertonelaw18.TraceHonest", spec := "traceHonest", unfollowed := true, recurses := true, plainKeys := false, apart := false, narrowed := true }
def TraceHonestUptoSaid : Prop := traceHonestUptoRow.holds Try.pinned (OpenSpec.upto traceHonestSpec)

/-- 'undertonelaw18.TraceKeys', WHERE WHAT IT READS IS OF BULK AT MOST 1048576: true; the input reads as it did. -/
def traceKeysUptoRow : OpenClaim := { program := "ytcigkkedffggiaa", sum := "2c2a3b6f96e788ac07869067c466879f9027689d3102239b3d1030ee89a1dff9", func := "undertone/undertonelaw18.TraceKeys", spec := "traceKeys", unfollowed := true, recurses := true, plainKeys := false, apart := false, narrowed := true }
def TraceKeysUptoSaid : Prop := traceKeysUptoRow.holds Try.pinned (OpenSpec.upto traceKeysSpec)

/-- 'undertonelaw18.TraceJudges', WHERE WHAT IT READS IS OF BULK AT MOST 1048576: true; the input reads as it did. -/
def traceJudgesUptoRow : OpenClaim := { program := "ytcigkkedffggiaa", sum := "2c2a3b6f96e788ac07869067c466879f9027689d3102239b3d1030ee89a1dff9", func := "undertone/undertonelaw18.TraceJudges", spec := "traceJudges", unfollowed := true, recurses := true, plainKeys := false, apart := false, narrowed := true }
def TraceJudgesUptoSaid : Prop := traceJudgesUptoRow.holds Try.pinned (OpenSpec.upto traceJudgesSpec)

/-- 'undertonelaw18.TraceOpens', WHERE WHAT IT READS IS OF BULK AT MOST 1048576: true; the input reads as it did. -/
def traceOpensUptoRow : OpenClaim := { program := "ytcigkkedffggiaa", sum := "2c2a3b6f96e788ac07869067c466879f9027689d3102239b3d1030ee89a1dff9", func := "undertone/undertonelaw18.TraceOpens", spec := "traceOpens", unfollowed := true, recurses := true, plainKeys := false, apart := false, narrowed := true }
def TraceOpensUptoSaid : Prop := traceOpensUptoRow.holds Try.pinned (OpenSpec.upto traceOpensSpec)

/-- 'undertonelaw18.TraceShort', WHERE WHAT IT READS IS OF BULK AT MOST 1048576: true; the input reads as it did. -/
def traceShortUptoRow : OpenClaim := { program := "ytcigkkedffggiaa", sum := "2c2a3b6f96e788ac07869067c466879f9027689d3102239b3d1030ee89a1dff9", func := "undertone/undertonelaw18.TraceShort", spec := "traceShort", unfollowed := true, recurses := true, plainKeys := false, apart := false, narrowed := true }
def TraceShortUptoSaid : Prop := traceShortUptoRow.holds Try.pinned (OpenSpec.upto traceShortSpec)

end Rows
end Go.Proofs.Ytcigkkedffggiaa
