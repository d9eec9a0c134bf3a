/-
  No cell of these rows narrows 'for every input' (looked for: loops, veiled, ifaces, maps, wideKeys, modest, calm, conditions, laid).
  DERIVED. THE GIVEN ROWS OF THIS SEAT. 8 by the template 'for every input the law returns true; each argument reads behind the call as it read before'; 0 by the template 'total and deterministic' (their statements: YtjkfbimldgegmaaTotals.lean).
  GIVEN WITH THE SEED: the statements are not yours to turn. If you find one false, say at which input.
  Laid BY PROGRAM, IN A SANDBOX (cutbox-rows.mjs): the forced cells as the released guide's own fill.sh prints them over the translation 1ff99c2b2bb690b4… (all of the seat's roots in one cut). By AI agents, Wed Nov 11 2026. No macro, syntax, notation, axiom, sorry.
-/
import Derived.Test.YtjkfbimldgegmaaChecked
import GoSem.Claim
import GoSem.ClaimJoined
import GoSem.ClaimMapViews
import Derived.JoinedTies
import Derived.KernelRfl
namespace Go.Proofs.Ytjkfbimldgegmaa
/- THE CELL 'sum', in the pinned program and in every row, IS THE sha256 OF THE DUMP (.gsa) THAT YtjkfbimldgegmaaProg.lean LOADS. Nothing in Lean hashes anything: it is a label: what it is worth is what the hold of that sum in a sandbox is worth. -/
noncomputable def Try.pinned : Pinned := { name := "ytjkfbimldgegmaa", sum := "1ff99c2b2bb690b4aca9390e511919cd8a76f022f69c3944db83947fdcf07e79", checked := Try.checked }
namespace Rows
def none {H : Type} : Left H := { results := [], args := [] }

/-- 'undertonelaw03.KnowCans': WHATEVER THE INPUT: true; the input reads as it did. -/
def knowCansSpec : ChangeSpec := { name := "knowCans", fn := fun _ => fun
  | [d1, d2] => { results := [.lit (.bool true)], args := [d1, d2] }
  | _ => none }
def knowCansRow : OpenClaim := { program := "ytjkfbimldgegmaa", sum := "1ff99c2b2bb690b4aca9390e511919cd8a76f022f69c3944db83947fdcf07e79", func := "undertone/undertonelaw03.KnowCans", spec := "knowCans", unfollowed := true, recurses := true, plainKeys := false, apart := false }
def KnowCansSaid : Prop := knowCansRow.holds Try.pinned (OpenSpec.ofChange knowCansSpec)

/-- ITS FALSE NEIGHBOUR: 'it returns false'. Refute it at one input. -/
def knowCansWrong : ChangeSpec := { name := "knowCans", fn := fun _ => fun
  | [d1, d2] => { results := [.lit (.bool false)], args := [d1, d2] }
  | _ => none }
def KnowCansWrongFalsely : Prop := knowCansRow.holds Try.pinned (OpenSpec.ofChange knowCansWrong)

/-- 'undertonelaw03.KnowOrders': WHATEVER THE INPUT: true; the input reads as it did. -/
def knowOrdersSpec : ChangeSpec := { name := "knowOrders", fn := fun _ => fun
  | [d1, d2] => { results := [.lit (.bool true)], args := [d1, d2] }
  | _ => none }
def knowOrdersRow : OpenClaim := { program := "ytjkfbimldgegmaa", sum := "1ff99c2b2bb690b4aca9390e511919cd8a76f022f69c3944db83947fdcf07e79", func := "undertone/undertonelaw03.KnowOrders", spec := "knowOrders", unfollowed := true, recurses := true, plainKeys := false, apart := false }
def KnowOrdersSaid : Prop := knowOrdersRow.holds Try.pinned (OpenSpec.ofChange knowOrdersSpec)

/-- ITS FALSE NEIGHBOUR: 'it returns false'. Refute it at one input. -/
def knowOrdersWrong : ChangeSpec := { name := "knowOrders", fn := fun _ => fun
  | [d1, d2] => { results := [.lit (.bool false)], args := [d1, d2] }
  | _ => none }
def KnowOrdersWrongFalsely : Prop := knowOrdersRow.holds Try.pinned (OpenSpec.ofChange knowOrdersWrong)

/-- 'undertonelaw03.KnowSeals': WHATEVER THE INPUT: true; the input reads as it did. -/
def knowSealsSpec : ChangeSpec := { name := "knowSeals", fn := fun _ => fun
  | [d1, d2] => { results := [.lit (.bool true)], args := [d1, d2] }
  | _ => none }
def knowSealsRow : OpenClaim := { program := "ytjkfbimldgegmaa", sum := "1ff99c2b2bb690b4aca9390e511919cd8a76f022f69c3944db83947fdcf07e79", func := "undertone/undertonelaw03.KnowSeals", spec := "knowSeals", unfollowed := true, recurses := true, plainKeys := false, apart := false }
def KnowSealsSaid : Prop := knowSealsRow.holds Try.pinned (OpenSpec.ofChange knowSealsSpec)

/-- ITS FALSE NEIGHBOUR: 'it returns false'. Refute it at one input. -/
def knowSealsWrong : ChangeSpec := { name := "knowSeals", fn := fun _ => fun
  | [d1, d2] => { results := [.lit (.bool false)], args := [d1, d2] }
  | _ => none }
def KnowSealsWrongFalsely : Prop := knowSealsRow.holds Try.pinned (OpenSpec.ofChange knowSealsWrong)

/-- 'undertonelaw03.KnowAll': WHATEVER THE INPUT: true; the input reads as it did. -/
def knowAllSpec : ChangeSpec := { name := "knowAll", fn := fun _ => fun
  | [d] => { results := [.lit (.bool true)], args := [d] }
  | _ => none }
def knowAllRow : OpenClaim := { program := "ytjkfbimldgegmaa", sum := "1ff99c2b2bb690b4aca9390e511919cd8a76f022f69c3944db83947fdcf07e79", func := "undertone/undertonelaw03.KnowAll", spec := "knowAll", unfollowed := true, recurses := true, plainKeys := false, apart := false }
def KnowAllSaid : Prop := knowAllRow.holds Try.pinned (OpenSpec.ofChange knowAllSpec)

/-- ITS FALSE NEIGHBOUR: 'it returns false'. Refute it at one input. -/
def knowAllWrong : ChangeSpec := { name := "knowAll", fn := fun _ => fun
  | [d] => { results := [.lit (.bool false)], args := [d] }
  | _ => none }
def KnowAllWrongFalsely : Prop := knowAllRow.holds Try.pinned (OpenSpec.ofChange knowAllWrong)

/-- 'undertonelaw03.KnowGrows': WHATEVER THE INPUT: true; the input reads as it did. -/
def knowGrowsSpec : ChangeSpec := { name := "knowGrows", fn := fun _ => fun
  | [d1, d2, d3] => { results := [.lit (.bool true)], args := [d1, d2, d3] }
  | _ => none }
def knowGrowsRow : OpenClaim := { program := "ytjkfbimldgegmaa", sum := "1ff99c2b2bb690b4aca9390e511919cd8a76f022f69c3944db83947fdcf07e79", func := "undertone/undertonelaw03.KnowGrows", spec := "knowGrows", unfollowed := true, recurses := true, plainKeys := false, apart := false }
def KnowGrowsSaid : Prop := knowGrowsRow.holds Try.pinned (OpenSpec.ofChange knowGrowsSpec)

/-- ITS FALSE NEIGHBOUR: 'it returns false'. Refute it at one input. -/
def knowGrowsWrong : ChangeSpec := { name := "knowGrows", fn := fun _ => fun
  | [d1, d2, d3] => { results := [.lit (.bool false)], args := [d1, d2, d3] }
  | _ => none }
def KnowGrowsWrongFalsely : Prop := knowGrowsRow.holds Try.pinned (OpenSpec.ofChange knowGrowsWrong)

/-- 'undertonelaw03.KnowShares': WHATEVER THE INPUT: true; the input reads as it did. -/
def knowSharesSpec : ChangeSpec := { name := "knowShares", fn := fun _ => fun
  | [d1, d2, d3, d4] => { results := [.lit (.bool true)], args := [d1, d2, d3, d4] }
  | _ => none }
def knowSharesRow : OpenClaim := { program := "ytjkfbimldgegmaa", sum := "1ff99c2b2bb690b4aca9390e511919cd8a76f022f69c3944db83947fdcf07e79", func := "undertone/undertonelaw03.KnowShares", spec := "knowShares", unfollowed := true, recurses := true, plainKeys := false, apart := false }
def KnowSharesSaid : Prop := knowSharesRow.holds Try.pinned (OpenSpec.ofChange knowSharesSpec)

/-- ITS FALSE NEIGHBOUR: 'it returns false'. Refute it at one input. -/
def knowSharesWrong : ChangeSpec := { name := "knowShares", fn := fun _ => fun
  | [d1, d2, d3, d4] => { results := [.lit (.bool false)], args := [d1, d2, d3, d4] }
  | _ => none }
def KnowSharesWrongFalsely : Prop := knowSharesRow.holds Try.pinned (OpenSpec.ofChange knowSharesWrong)

/-- 'undertonelaw03.KnowLearns': WHATEVER THE INPUT: true; the input reads as it did. -/
def knowLearnsSpec : ChangeSpec := { name := "knowLearns", fn := fun _ => fun
  | [d1, d2] => { results := [.lit (.bool true)], args := [d1, d2] }
  | _ => none }
def knowLearnsRow : OpenClaim := { program := "ytjkfbimldgegmaa", sum := "1ff99c2b2bb690b4aca9390e511919cd8a76f022f69c3944db83947fdcf07e79", func := "undertone/undertonelaw03.KnowLearns", spec := "knowLearns", unfollowed := true, recurses := true, plainKeys := false, apart := false }
def KnowLearnsSaid : Prop := knowLearnsRow.holds Try.pinned (OpenSpec.ofChange knowLearnsSpec)

/-- ITS FALSE NEIGHBOUR: 'it returns false'. Refute it at one input. -/
def knowLearnsWrong : ChangeSpec := { name := "knowLearns", fn := fun _ => fun
  | [d1, d2] => { results := [.lit (.bool false)], args := [d1, d2] }
  | _ => none }
def KnowLearnsWrongFalsely : Prop := knowLearnsRow.holds Try.pinned (OpenSpec.ofChange knowLearnsWrong)

/-- 'undertonelaw03.KnowNothing': WHATEVER THE INPUT: true; the input reads as it did. -/
def knowNothingSpec : ChangeSpec := { name := "knowNothing", fn := fun _ => fun
  | [d] => { results := [.lit (.bool true)], args := [d] }
  | _ => none }
def knowNothingRow : OpenClaim := { program := "ytjkfbimldgegmaa", sum := "1ff99c2b2bb690b4aca9390e511919cd8a76f022f69c3944db83947fdcf07e79", func := "undertone/undertonelaw03.KnowNothing", spec := "knowNothing", unfollowed := true, recurses := true, plainKeys := false, apart := false }
def KnowNothingSaid : Prop := knowNothingRow.holds Try.pinned (OpenSpec.ofChange knowNothingSpec)

/-- ITS FALSE NEIGHBOUR: 'it returns false'. Refute it at one input. -/
def knowNothingWrong : ChangeSpec := { name := "knowNothing", fn := fun _ => fun
  | [d] => { results := [.lit (.bool false)], args := [d] }
  | _ => none }
def KnowNothingWrongFalsely : Prop := knowNothingRow.holds Try.pinned (OpenSpec.ofChange knowNothingWrong)

/- THE SECOND FORM. 'bulk': how many values and letters a reading holds, each counted each time it is reached (what is shared counts as often as it is met; a slice's spare places count too). A statement '..UptoSaid' is the law's where the arguments, and the package variables that the reading takes, are together of bulk at most 1048576: NARROWER than '..Said'. Prove '..Said' where nothing that the law and all that it calls make is longer than what came in: it says more and counts as full. Else prove '..UptoSaid'. A law counts once. -/
mutual
def uptoBulk {H : Type} : DataW H → Nat
  | .lit (.string bytes) => bytes.length + 1
  | .lit _ => 1
  | .nil => 1
  | .ptr d => uptoBulk d + 1
  | .slice elems spare => uptoBulkAll elems + uptoBulkAll spare + 1
  | .agg parts => uptoBulkAll parts + 1
  | .iface _ d => uptoBulk d + 1
  | .map entries => uptoBulkEntries entries + 1
  | .held _ => 1
def uptoBulkAll {H : Type} : List (DataW H) → Nat
  | [] => 0
  | d :: r => uptoBulk d + uptoBulkAll r
def uptoBulkEntries {H : Type} : List (Lit × DataW H) → Nat
  | [] => 0
  | x :: r => uptoBulkEntry x + uptoBulkEntries r
def uptoBulkEntry {H : Type} : Lit × DataW H → Nat
  | (.string bytes, d) => bytes.length + uptoBulk d + 1
  | (_, d) => uptoBulk d + 1
 end
def uptoSmall : (H : Type) → List (DataW H) → Bool := fun _ ds => decide (uptoBulkAll ds ≤ 1048576)
def OpenSpec.upto (s : _root_.Go.ChangeSpec) : _root_.Go.OpenSpec := { _root_.Go.OpenSpec.ofChange s with cond := some uptoSmall }

/-- 'undertonelaw03.KnowCans', WHERE WHAT IT READS IS OF BULK AT MOST 1048576: true; the input reads as it did. -/
def knowCansUptoRow : OpenClaim := { program := "ytjkfbimldgegmaa", sum := "1ff99c2b2bb690b4aca9390e511919cd8a76f022f69c3944db83947fdcf07e79", func := "undertone/undertonelaw03.KnowCans", spec := "knowCans", unfollowed := true, recurses := true, plainKeys := false, apart := false, narrowed := true }
def KnowCansUptoSaid : Prop := knowCansUptoRow.holds Try.pinned (OpenSpec.upto knowCansSpec)

/-- 'undertonelaw03.KnowOrders', WHERE WHAT IT READS IS OF BULK AT MOST 1048576: true; the input reads as it did. -/
def knowOrdersUptoRow : OpenClaim := { program := "ytjkfbimldgegmaa", sum := "1ff99c2b2bb690b4aca9390e511919cd8a76f022f69c3944db83947fdcf07e79", func := "undertone/undertonelaw03.KnowOrders", spec := "knowOrders", unfollowed := true, recurses := true, plainKeys := false, apart := false, narrowed := true }
def KnowOrdersUptoSaid : Prop := knowOrdersUptoRow.holds Try.pinned (OpenSpec.upto knowOrdersSpec)

/-- 'undertonelaw03.KnowSeals', WHERE WHAT IT READS IS OF BULK AT MOST 1048576: true; the input reads as it did. -/
def knowSealsUptoRow : OpenClaim := { program := "ytjkfbimldgegmaa", sum := "1ff99c2b2bb690b4aca9390e511919cd8a76f022f69c3944db83947fdcf07e79", func := "undertone/undertonelaw03.KnowSeals", spec := "knowSeals", unfollowed := true, recurses := true, plainKeys := false, apart := false, narrowed := true }
def KnowSealsUptoSaid : Prop := knowSealsUptoRow.holds Try.pinned (OpenSpec.upto knowSealsSpec)

/-- 'undertonelaw03.KnowAll', WHERE WHAT IT READS IS OF BULK AT MOST 1048576: true; the input reads as it did. -/
def knowAllUptoRow : OpenClaim := { program := "ytjkfbimldgegmaa", sum := "1ff99c2b2bb690b4aca9390e511919cd8a76f022f69c3944db83947fdcf07e79", func := "undertone/undertonelaw03.KnowAll", spec := "knowAll", unfollowed := true, recurses := true, plainKeys := false, apart := false, narrowed := true }
def KnowAllUptoSaid : Prop := knowAllUptoRow.holds Try.pinned (OpenSpec.upto knowAllSpec)

/-- 'undertonelaw03.KnowGrows', WHERE WHAT IT READS IS OF BULK AT MOST 1048576: true; the input reads as it did. -/
def knowGrowsUptoRow : OpenClaim := { program := "ytjkfbimldgegmaa", sum := "1ff99c2b2bb690b4aca9390e511919cd8a76f022f69c3944db83947fdcf07e79", func := "undertone/undertonelaw03.KnowGrows", spec := "knowGrows", unfollowed := true, recurses := true, plainKeys := false, apart := false, narrowed := true }
def KnowGrowsUptoSaid : Prop := knowGrowsUptoRow.holds Try.pinned (OpenSpec.upto knowGrowsSpec)

/-- 'undertonelaw03.KnowShares', WHERE WHAT IT READS IS OF BULK AT MOST 1048576: true; the input reads as it did. -/
def knowSharesUptoRow : OpenClaim := { program := "ytjkfbimldgegmaa", sum := "1ff99c2b2bb690b4aca9390e511919cd8a76f022f69c3944db83947fdcf07e79", func := "undertone/undertonelaw03.KnowShares", spec := "knowShares", unfollowed := true, recurses := true, plainKeys := false, apart := false, narrowed := true }
def KnowSharesUptoSaid : Prop := knowSharesUptoRow.holds Try.pinned (OpenSpec.upto knowSharesSpec)

/-- 'undertonelaw03.KnowLearns', WHERE WHAT IT READS IS OF BULK AT MOST 1048576: true; the input reads as it did. -/
def knowLearnsUptoRow : OpenClaim := { program := "ytjkfbimldgegmaa", sum := "1ff99c2b2bb690b4aca9390e511919cd8a76f022f69c3944db83947fdcf07e79", func := "undertone/undertonelaw03.KnowLearns", spec := "knowLearns", unfollowed := true, recurses := true, plainKeys := false, apart := false, narrowed := true }
def KnowLearnsUptoSaid : Prop := knowLearnsUptoRow.holds Try.pinned (OpenSpec.upto knowLearnsSpec)

/-- 'undertonelaw03.KnowNothing', WHERE WHAT IT READS IS OF BULK AT MOST 1048576: true; the input reads as it did. -/
def knowNothingUptoRow : OpenClaim := { program := "ytjkfbimldgegmaa", sum := "1ff99c2b2bb690b4aca9390e511919cd8a76f022f69c3944db83947fdcf07e79", func := "undertone/undertonelaw03.KnowNothing", spec := "knowNothing", unfollowed := true, recurses := true, plainKeys := false, apart := false, narrowed := true }
def KnowNothingUptoSaid : Prop := knowNothingUptoRow.holds Try.pinned (OpenSpec.upto knowNothingSpec)

end Rows
end Go.Proofs.Ytjkfbimldgegmaa
