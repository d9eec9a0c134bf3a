/-
  No cell of these rows narrows 'for every input' (looked for: loops, veiled, ifaces, maps, wideKeys, modest, calm, conditions, laid).
  DERIVED. THE GIVEN ROWS OF THIS SEAT. 7 by the template 'for every input the law returns true; each argument reads behind the call as it read before'; 0 by the template 'total and deterministic' (their statements: YtecpehjlpgcmaaaTotals.lean).
  GIVEN WITH THE SEED: the statements are not yours to turn. If you find one false, say at which input.
  Laid BY PROGRAM, IN A SANDBOX (cutbox-rows.mjs): the forced cells as the released guide's own fill.sh prints them over the translation 925169c06840f3f4… (all of the seat's roots in one cut). By AI agents, Wed Nov 11 2026. No macro, syntax, notation, axiom, sorry.
-/
import Derived.Test.YtecpehjlpgcmaaaChecked
import GoSem.Claim
import GoSem.ClaimJoined
import GoSem.ClaimMapViews
import Derived.JoinedTies
import Derived.KernelRfl
namespace Go.Proofs.Ytecpehjlpgcmaaa
/- THE CELL 'sum', in the pinned program and in every row, IS THE sha256 OF THE DUMP (.gsa) THAT YtecpehjlpgcmaaaProg.lean LOADS. Nothing in Lean hashes anything: it is a label: what it is worth is what the hold of that sum in a sandbox is worth. -/
noncomputable def Try.pinned : Pinned := { name := "ytecpehjlpgcmaaa", sum := "925169c06840f3f4582b93a6fdb4c516295b8421a68a3a280032517354a747b6", checked := Try.checked }
namespace Rows
def none {H : Type} : Left H := { results := [], args := [] }

/-- 'undertonelaw10.CipherBack': WHATEVER THE INPUT: true; the input reads as it did. -/
def cipherBackSpec : ChangeSpec := { name := "cipherBack", fn := fun _ => fun
  | [d1, d2, d3, d4, d5, d6] => { results := [.lit (.bool true)], args := [d1, d2, d3, d4, d5, d6] }
  | _ => none }
def cipherBackRow : OpenClaim := { program := "ytecpehjlpgcmaaa", sum := "925169c06840f3f4582b93a6fdb4c516295b8421a68a3a280032517354a747b6", func := "undertone/undertonelaw10.CipherBack", spec := "cipherBack", unfollowed := true, recurses := true, plainKeys := false, apart := false }
def CipherBackSaid : Prop := cipherBackRow.holds Try.pinned (OpenSpec.ofChange cipherBackSpec)

/-- ITS FALSE NEIGHBOUR: 'it returns false'. Refute it at one input. -/
def cipherBackWrong : ChangeSpec := { name := "cipherBack", fn := fun _ => fun
  | [d1, d2, d3, d4, d5, d6] => { results := [.lit (.bool false)], args := [d1, d2, d3, d4, d5, d6] }
  | _ => none }
def CipherBackWrongFalsely : Prop := cipherBackRow.holds Try.pinned (OpenSpec.ofChange cipherBackWrong)

/-- 'undertonelaw10.CipherCounts': WHATEVER THE INPUT: true; the input reads as it did. -/
def cipherCountsSpec : ChangeSpec := { name := "cipherCounts", fn := fun _ => fun
  | [d1, d2, d3] => { results := [.lit (.bool true)], args := [d1, d2, d3] }
  | _ => none }
def cipherCountsRow : OpenClaim := { program := "ytecpehjlpgcmaaa", sum := "925169c06840f3f4582b93a6fdb4c516295b8421a68a3a280032517354a747b6", func := "undertone/undertonelaw10.CipherCounts", spec := "cipherCounts", unfollowed := true, recurses := true, plainKeys := false, apart := false }
def CipherCountsSaid : Prop := cipherCountsRow.holds Try.pinned (OpenSpec.ofChange cipherCountsSpec)

/-- ITS FALSE NEIGHBOUR: 'it returns false'. Refute it at one input. -/
def cipherCountsWrong : ChangeSpec := { name := "cipherCounts", fn := fun _ => fun
  | [d1, d2, d3] => { results := [.lit (.bool false)], args := [d1, d2, d3] }
  | _ => none }
def CipherCountsWrongFalsely : Prop := cipherCountsRow.holds Try.pinned (OpenSpec.ofChange cipherCountsWrong)

/-- 'undertonelaw10.CipherSeals': WHATEVER THE INPUT: true; the input reads as it did. -/
def cipherSealsSpec : ChangeSpec := { name := "cipherSeals", fn := fun _ => fun
  | [d1, d2, d3, d4, d5] => { results := [.lit (.bool true)], args := [d1, d2, d3, d4, d5] }
  | _ => none }
def cipherSealsRow : OpenClaim := { program := "ytecpehjlpgcmaaa", sum := "925169c06840f3f4582b93a6fdb4c516295b8421a68a3a280032517354a747b6", func := "undertone/undertonelaw10.CipherSeals", spec := "cipherSeals", unfollowed := true, recurses := true, plainKeys := false, apart := false }
def CipherSealsSaid : Prop := cipherSealsRow.holds Try.pinned (OpenSpec.ofChange cipherSealsSpec)

/-- ITS FALSE NEIGHBOUR: 'it returns false'. Refute it at one input. -/
def cipherSealsWrong : ChangeSpec := { name := "cipherSeals", fn := fun _ => fun
  | [d1, d2, d3, d4, d5] => { results := [.lit (.bool false)], args := [d1, d2, d3, d4, d5] }
  | _ => none }
def CipherSealsWrongFalsely : Prop := cipherSealsRow.holds Try.pinned (OpenSpec.ofChange cipherSealsWrong)

/-- 'undertonelaw10.CipherOpens': WHATEVER THE INPUT: true; the input reads as it did. -/
def cipherOpensSpec : ChangeSpec := { name := "cipherOpens", fn := fun _ => fun
  | [d1, d2, d3, d4] => { results := [.lit (.bool true)], args := [d1, d2, d3, d4] }
  | _ => none }
def cipherOpensRow : OpenClaim := { program := "ytecpehjlpgcmaaa", sum := "925169c06840f3f4582b93a6fdb4c516295b8421a68a3a280032517354a747b6", func := "undertone/undertonelaw10.CipherOpens", spec := "cipherOpens", unfollowed := true, recurses := true, plainKeys := false, apart := false }
def CipherOpensSaid : Prop := cipherOpensRow.holds Try.pinned (OpenSpec.ofChange cipherOpensSpec)

/-- ITS FALSE NEIGHBOUR: 'it returns false'. Refute it at one input. -/
def cipherOpensWrong : ChangeSpec := { name := "cipherOpens", fn := fun _ => fun
  | [d1, d2, d3, d4] => { results := [.lit (.bool false)], args := [d1, d2, d3, d4] }
  | _ => none }
def CipherOpensWrongFalsely : Prop := cipherOpensRow.holds Try.pinned (OpenSpec.ofChange cipherOpensWrong)

/-- 'undertonelaw10.CipherNone': WHATEVER THE INPUT: true; the input reads as it did. -/
def cipherNoneSpec : ChangeSpec := { name := "cipherNone", fn := fun _ => fun
  | [d1, d2, d3, d4, d5] => { results := [.lit (.bool true)], args := [d1, d2, d3, d4, d5] }
  | _ => none }
def cipherNoneRow : OpenClaim := { program := "ytecpehjlpgcmaaa", sum := "925169c06840f3f4582b93a6fdb4c516295b8421a68a3a280032517354a747b6", func := "undertone/undertonelaw10.CipherNone", spec := "cipherNone", unfollowed := true, recurses := true, plainKeys := false, apart := false }
def CipherNoneSaid : Prop := cipherNoneRow.holds Try.pinned (OpenSpec.ofChange cipherNoneSpec)

/-- ITS FALSE NEIGHBOUR: 'it returns false'. Refute it at one input. -/
def cipherNoneWrong : ChangeSpec := { name := "cipherNone", fn := fun _ => fun
  | [d1, d2, d3, d4, d5] => { results := [.lit (.bool false)], args := [d1, d2, d3, d4, d5] }
  | _ => none }
def CipherNoneWrongFalsely : Prop := cipherNoneRow.holds Try.pinned (OpenSpec.ofChange cipherNoneWrong)

/-- 'undertonelaw10.CipherEnds': WHATEVER THE INPUT: true; the input reads as it did. -/
def cipherEndsSpec : ChangeSpec := { name := "cipherEnds", fn := fun _ => fun
  | [d1, d2] => { results := [.lit (.bool true)], args := [d1, d2] }
  | _ => none }
def cipherEndsRow : OpenClaim := { program := "ytecpehjlpgcmaaa", sum := "925169c06840f3f4582b93a6fdb4c516295b8421a68a3a280032517354a747b6", func := "undertone/undertonelaw10.CipherEnds", spec := "cipherEnds", unfollowed := true, recurses := true, plainKeys := false, apart := false }
def CipherEndsSaid : Prop := cipherEndsRow.holds Try.pinned (OpenSpec.ofChange cipherEndsSpec)

/-- ITS FALSE NEIGHBOUR: 'it returns false'. Refute it at one input. -/
def cipherEndsWrong : ChangeSpec := { name := "cipherEnds", fn := fun _ => fun
  | [d1, d2] => { results := [.lit (.bool false)], args := [d1, d2] }
  | _ => none }
def CipherEndsWrongFalsely : Prop := cipherEndsRow.holds Try.pinned (OpenSpec.ofChange cipherEndsWrong)

/-- 'undertonelaw10.CipherRekeys': WHATEVER THE INPUT: true; the input reads as it did. -/
def cipherRekeysSpec : ChangeSpec := { name := "cipherRekeys", fn := fun _ => fun
  | [d1, d2, d3] => { results := [.lit (.bool true)], args := [d1, d2, d3] }
  | _ => none }
def cipherRekeysRow : OpenClaim := { program := "ytecpehjlpgcmaaa", sum := "925169c06840f3f4582b93a6fdb4c516295b8421a68a3a280032517354a747b6", func := "undertone/undertonelaw10.CipherRekeys", spec := "cipherRekeys", unfollowed := true, recurses := true, plainKeys := false, apart := false }
def CipherRekeysSaid : Prop := cipherRekeysRow.holds Try.pinned (OpenSpec.ofChange cipherRekeysSpec)

/-- ITS FALSE NEIGHBOUR: 'it returns false'. Refute it at one input. -/
def cipherRekeysWrong : ChangeSpec := { name := "cipherRekeys", fn := fun _ => fun
  | [d1, d2, d3] => { results := [.lit (.bool false)], args := [d1, d2, d3] }
  | _ => none }
def CipherRekeysWrongFalsely : Prop := cipherRekeysRow.holds Try.pinned (OpenSpec.ofChange cipherRekeysWrong)

/- THE SECOND FORM. 'bulk': how many values and letters a reading holds, each counted each time it is reached (what is shared counts as often as it is met; a slice's spare places count too). A statement '..UptoSaid' is the law's where the arguments, and the package variables that the reading takes, are together of bulk at most 1048576: NARROWER than '..Said'. Prove '..Said' where nothing that the law and all that it calls make is longer than what came in: it says more and counts as full. Else prove '..UptoSaid'. A law counts once. -/
mutual
def uptoBulk {H : Type} : DataW H → Nat
  | .lit (.string bytes) => bytes.length + 1
  | .lit _ => 1
  | .nil => 1
  | .ptr d => uptoBulk d + 1
  | .slice elems spare => uptoBulkAll elems + uptoBulkAll spare + 1
  | .agg parts => uptoBulkAll parts + 1
  | .iface _ d => uptoBulk d + 1
  | .map entries => uptoBulkEntries entries + 1
  | .held _ => 1
def uptoBulkAll {H : Type} : List (DataW H) → Nat
  | [] => 0
  | d :: r => uptoBulk d + uptoBulkAll r
def uptoBulkEntries {H : Type} : List (Lit × DataW H) → Nat
  | [] => 0
  | x :: r => uptoBulkEntry x + uptoBulkEntries r
def uptoBulkEntry {H : Type} : Lit × DataW H → Nat
  | (.string bytes, d) => bytes.length + uptoBulk d + 1
  | (_, d) => uptoBulk d + 1
 end
def uptoSmall : (H : Type) → List (DataW H) → Bool := fun _ ds => decide (uptoBulkAll ds ≤ 1048576)
def OpenSpec.upto (s : _root_.Go.ChangeSpec) : _root_.Go.OpenSpec := { _root_.Go.OpenSpec.ofChange s with cond := some uptoSmall }

/-- 'undertonelaw10.CipherBack', WHERE WHAT IT READS IS OF BULK AT MOST 1048576: true; the input reads as it did. -/
def cipherBackUptoRow : OpenClaim := { program := "ytecpehjlpgcmaaa", sum := "925169c06840f3f4582b93a6fdb4c516295b8421a68a3a280032517354a747b6", func := "undertone/undertonelaw10.CipherBack", spec := "cipherBack", unfollowed := true, recurses := true, plainKeys := false, apart := false, narrowed := true }
def CipherBackUptoSaid : Prop := cipherBackUptoRow.holds Try.pinned (OpenSpec.upto cipherBackSpec)

/-- 'undertonelaw10.CipherCounts', WHERE WHAT IT READS IS OF BULK AT MOST 1048576: true; the input reads as it did. -/
def cipherCountsUptoRow : OpenClaim := { program := "ytecpehjlpgcmaaa", sum := "925169c06840f3f4582b93a6fdb4c516295b8421a68a3a280032517354a747b6", func := "undertone/undertonelaw10.CipherCounts", spec := "cipherCounts", unfollowed := true, recurses := true, plainKeys := false, apart := false, narrowed := true }
def CipherCountsUptoSaid : Prop := cipherCountsUptoRow.holds Try.pinned (OpenSpec.upto cipherCountsSpec)

/-- 'undertonelaw10.CipherSeals', WHERE WHAT IT READS IS OF BULK AT MOST 1048576: true; the input reads as it did. -/
def cipherSealsUptoRow : OpenClaim := { program := "ytecpehjlpgcmaaa", sum := "925169c06840f3f4582b93a6fdb4c516295b8421a68a3a280032517354a747b6", func := "undertone/undertonelaw10.CipherSeals", spec := "cipherSeals", unfollowed := true, recurses := true, plainKeys := false, apart := false, narrowed := true }
def CipherSealsUptoSaid : Prop := cipherSealsUptoRow.holds Try.pinned (OpenSpec.upto cipherSealsSpec)

/-- 'undertonelaw10.CipherOpens', WHERE WHAT IT READS IS OF BULK AT MOST 1048576: true; the input reads as it did. -/
def cipherOpensUptoRow : OpenClaim := { program := "ytecpehjlpgcmaaa", sum := "925169c06840f3f4582b93a6fdb4c516295b8421a68a3a280032517354a747b6", func := "undertone/undertonelaw10.CipherOpens", spec := "cipherOpens", unfollowed := true, recurses := true, plainKeys := false, apart := false, narrowed := true }
def CipherOpensUptoSaid : Prop := cipherOpensUptoRow.holds Try.pinned (OpenSpec.upto cipherOpensSpec)

/-- 'undertonelaw10.CipherNone', WHERE WHAT IT READS IS OF BULK AT MOST 1048576: true; the input reads as it did. -/
def cipherNoneUptoRow : OpenClaim := { program := "ytecpehjlpgcmaaa", sum := "925169c06840f3f4582b93a6fdb4c516295b8421a68a3a280032517354a747b6", func := "undertone/undertonelaw10.CipherNone", spec := "cipherNone", unfollowed := true, recurses := true, plainKeys := false, apart := false, narrowed := true }
def CipherNoneUptoSaid : Prop := cipherNoneUptoRow.holds Try.pinned (OpenSpec.upto cipherNoneSpec)

/-- 'undertonelaw10.CipherEnds', WHERE WHAT IT READS IS OF BULK AT MOST 1048576: true; the input reads as it did. -/
def cipherEndsUptoRow : OpenClaim := { program := "ytecpehjlpgcmaaa", sum := "925169c06840f3f4582b93a6fdb4c516295b8421a68a3a280032517354a747b6", func := "undertone/undertonelaw10.CipherEnds", spec := "cipherEnds", unfollowed := true, recurses := true, plainKeys := false, apart := false, narrowed := true }
def CipherEndsUptoSaid : Prop := cipherEndsUptoRow.holds Try.pinned (OpenSpec.upto cipherEndsSpec)

/-- 'undertonelaw10.CipherRekeys', WHERE WHAT IT READS IS OF BULK AT MOST 1048576: true; the input reads as it did. -/
def cipherRekeysUptoRow : OpenClaim := { program := "ytecpehjlpgcmaaa", sum := "925169c06840f3f4582b93a6fdb4c516295b8421a68a3a280032517354a747b6", func := "undertone/undertonelaw10.CipherRekeys", spec := "cipherRekeys", unfollowed := true, recurses := true, plainKeys := false, apart := false, narrowed := true }
def CipherRekeysUptoSaid : Prop := cipherRekeysUptoRow.holds Try.pinned (OpenSpec.upto cipherRekeysSpec)

end Rows
end Go.Proofs.Ytecpehjlpgcmaaa
