/-
  No cell of these rows narrows 'for every input' (looked for: loops, veiled, ifaces, maps, wideKeys, modest, calm, conditions, laid).
  DERIVED. THE GIVEN ROWS OF THIS SEAT. 6 by the template 'for every input the law returns true; each argument reads behind the call as it read before'; 0 by the template 'total and deterministic' (their statements: YthejfodjielahaaTotals.lean).
  GIVEN WITH THE SEED: the statements are not yours to turn. If you find one false, say at which input.
  Laid BY PROGRAM, IN A SANDBOX (cutbox-rows.mjs): the forced cells as the released guide's own fill.sh prints them over the translation a811fad957076010… (all of the seat's roots in one cut). By AI agents, Wed Nov 11 2026. No macro, syntax, notation, axiom, sorry.
-/
import Derived.Test.YthejfodjielahaaChecked
import GoSem.Claim
import GoSem.ClaimJoined
import GoSem.ClaimMapViews
import Derived.JoinedTies
import Derived.KernelRfl
namespace Go.Proofs.Ythejfodjielahaa
/- THE CELL 'sum', in the pinned program and in every row, IS THE sha256 OF THE DUMP (.gsa) THAT YthejfodjielahaaProg.lean LOADS. Nothing in Lean hashes anything: it is a label: what it is worth is what the hold of that sum in a sandbox is worth. -/
noncomputable def Try.pinned : Pinned := { name := "ythejfodjielahaa", sum := "a811fad9570760107eaf5dee96ade7e71882129ed44c953cc7b6c119e4184d3a", checked := Try.checked }
namespace Rows
def none {H : Type} : Left H := { results := [], args := [] }

/-- 'undertonelaw04.RecipeCans': WHATEVER THE INPUT: true; the input reads as it did. -/
def recipeCansSpec : ChangeSpec := { name := "recipeCans", fn := fun _ => fun
  | [d1, d2, d3] => { results := [.lit (.bool true)], args := [d1, d2, d3] }
  | _ => none }
def recipeCansRow : OpenClaim := { program := "ythejfodjielahaa", sum := "a811fad9570760107eaf5dee96ade7e71882129ed44c953cc7b6c119e4184d3a", func := "undertone/undertonelaw04.RecipeCans", spec := "recipeCans", unfollowed := true, recurses := true, plainKeys := false, apart := false }
def RecipeCansSaid : Prop := recipeCansRow.holds Try.pinned (OpenSpec.ofChange recipeCansSpec)

/-- ITS FALSE NEIGHBOUR: 'it returns false'. Refute it at one input. -/
def recipeCansWrong : ChangeSpec := { name := "recipeCans", fn := fun _ => fun
  | [d1, d2, d3] => { results := [.lit (.bool false)], args := [d1, d2, d3] }
  | _ => none }
def RecipeCansWrongFalsely : Prop := recipeCansRow.holds Try.pinned (OpenSpec.ofChange recipeCansWrong)

/-- 'undertonelaw04.RecipeHears': WHATEVER THE INPUT: true; the input reads as it did. -/
def recipeHearsSpec : ChangeSpec := { name := "recipeHears", fn := fun _ => fun
  | [d1, d2, d3] => { results := [.lit (.bool true)], args := [d1, d2, d3] }
  | _ => none }
def recipeHearsRow : OpenClaim := { program := "ythejfodjielahaa", sum := "a811fad9570760107eaf5dee96ade7e71882129ed44c953cc7b6c119e4184d3a", func := "undertone/undertonelaw04.RecipeHears", spec := "recipeHears", unfollowed := true, recurses := true, plainKeys := false, apart := false }
def RecipeHearsSaid : Prop := recipeHearsRow.holds Try.pinned (OpenSpec.ofChange recipeHearsSpec)

/-- ITS FALSE NEIGHBOUR: 'it returns false'. Refute it at one input. -/
def recipeHearsWrong : ChangeSpec := { name := "recipeHears", fn := fun _ => fun
  | [d1, d2, d3] => { results := [.lit (.bool false)], args := [d1, d2, d3] }
  | _ => none }
def RecipeHearsWrongFalsely : Prop := recipeHearsRow.holds Try.pinned (OpenSpec.ofChange recipeHearsWrong)

/-- 'undertonelaw04.RecipeParts': WHATEVER THE INPUT: true; the input reads as it did. -/
def recipePartsSpec : ChangeSpec := { name := "recipeParts", fn := fun _ => fun
  | [d1, d2, d3] => { results := [.lit (.bool true)], args := [d1, d2, d3] }
  | _ => none }
def recipePartsRow : OpenClaim := { program := "ythejfodjielahaa", sum := "a811fad9570760107eaf5dee96ade7e71882129ed44c953cc7b6c119e4184d3a", func := "undertone/undertonelaw04.RecipeParts", spec := "recipeParts", unfollowed := true, recurses := true, plainKeys := false, apart := false }
def RecipePartsSaid : Prop := recipePartsRow.holds Try.pinned (OpenSpec.ofChange recipePartsSpec)

/-- ITS FALSE NEIGHBOUR: 'it returns false'. Refute it at one input. -/
def recipePartsWrong : ChangeSpec := { name := "recipeParts", fn := fun _ => fun
  | [d1, d2, d3] => { results := [.lit (.bool false)], args := [d1, d2, d3] }
  | _ => none }
def RecipePartsWrongFalsely : Prop := recipePartsRow.holds Try.pinned (OpenSpec.ofChange recipePartsWrong)

/-- 'undertonelaw04.RecipeJoins': WHATEVER THE INPUT: true; the input reads as it did. -/
def recipeJoinsSpec : ChangeSpec := { name := "recipeJoins", fn := fun _ => fun
  | [d1, d2, d3, d4] => { results := [.lit (.bool true)], args := [d1, d2, d3, d4] }
  | _ => none }
def recipeJoinsRow : OpenClaim := { program := "ythejfodjielahaa", sum := "a811fad9570760107eaf5dee96ade7e71882129ed44c953cc7b6c119e4184d3a", func := "undertone/undertonelaw04.RecipeJoins", spec := "recipeJoins", unfollowed := true, recurses := true, plainKeys := false, apart := false }
def RecipeJoinsSaid : Prop := recipeJoinsRow.holds Try.pinned (OpenSpec.ofChange recipeJoinsSpec)

/-- ITS FALSE NEIGHBOUR: 'it returns false'. Refute it at one input. -/
def recipeJoinsWrong : ChangeSpec := { name := "recipeJoins", fn := fun _ => fun
  | [d1, d2, d3, d4] => { results := [.lit (.bool false)], args := [d1, d2, d3, d4] }
  | _ => none }
def RecipeJoinsWrongFalsely : Prop := recipeJoinsRow.holds Try.pinned (OpenSpec.ofChange recipeJoinsWrong)

/-- 'undertonelaw04.RecipeRuns': WHATEVER THE INPUT: true; the input reads as it did. -/
def recipeRunsSpec : ChangeSpec := { name := "recipeRuns", fn := fun _ => fun
  | [d1, d2, d3, d4] => { results := [.lit (.bool true)], args := [d1, d2, d3, d4] }
  | _ => none }
def recipeRunsRow : OpenClaim := { program := "ythejfodjielahaa", sum := "a811fad9570760107eaf5dee96ade7e71882129ed44c953cc7b6c119e4184d3a", func := "undertone/undertonelaw04.RecipeRuns", spec := "recipeRuns", unfollowed := true, recurses := true, plainKeys := false, apart := false }
def RecipeRunsSaid : Prop := recipeRunsRow.holds Try.pinned (OpenSpec.ofChange recipeRunsSpec)

/-- ITS FALSE NEIGHBOUR: 'it returns false'. Refute it at one input. -/
def recipeRunsWrong : ChangeSpec := { name := "recipeRuns", fn := fun _ => fun
  | [d1, d2, d3, d4] => { results := [.lit (.bool false)], args := [d1, d2, d3, d4] }
  | _ => none }
def RecipeRunsWrongFalsely : Prop := recipeRunsRow.holds Try.pinned (OpenSpec.ofChange recipeRunsWrong)

/-- 'undertonelaw04.RecipeAgain': WHATEVER THE INPUT: true; the input reads as it did. -/
def recipeAgainSpec : ChangeSpec := { name := "recipeAgain", fn := fun _ => fun
  | [d1, d2, d3] => { results := [.lit (.bool true)], args := [d1, d2, d3] }
  | _ => none }
def recipeAgainRow : OpenClaim := { program := "ythejfodjielahaa", sum := "a811fad9570760107eaf5dee96ade7e71882129ed44c953cc7b6c119e4184d3a", func := "undertone/undertonelaw04.RecipeAgain", spec := "recipeAgain", unfollowed := true, recurses := true, plainKeys := false, apart := false }
def RecipeAgainSaid : Prop := recipeAgainRow.holds Try.pinned (OpenSpec.ofChange recipeAgainSpec)

/-- ITS FALSE NEIGHBOUR: 'it returns false'. Refute it at one input. -/
def recipeAgainWrong : ChangeSpec := { name := "recipeAgain", fn := fun _ => fun
  | [d1, d2, d3] => { results := [.lit (.bool false)], args := [d1, d2, d3] }
  | _ => none }
def RecipeAgainWrongFalsely : Prop := recipeAgainRow.holds Try.pinned (OpenSpec.ofChange recipeAgainWrong)

/- THE SECOND FORM. 'bulk': how many values and letters a reading holds, each counted each time it is reached (what is shared counts as often as it is met; a slice's spare places count too). A statement '..UptoSaid' is the law's where the arguments, and the package variables that the reading takes, are together of bulk at most 1048576: NARROWER than '..Said'. Prove '..Said' where nothing that the law and all that it calls make is longer than what came in: it says more and counts as full. Else prove '..UptoSaid'. A law counts once. -/
mutual
def uptoBulk {H : Type} : DataW H → Nat
  | .lit (.string bytes) => bytes.length + 1
  | .lit _ => 1
  | .nil => 1
  | .ptr d => uptoBulk d + 1
  | .slice elems spare => uptoBulkAll elems + uptoBulkAll spare + 1
  | .agg parts => uptoBulkAll parts + 1
  | .iface _ d => uptoBulk d + 1
  | .map entries => uptoBulkEntries entries + 1
  | .held _ => 1
def uptoBulkAll {H : Type} : List (DataW H) → Nat
  | [] => 0
  | d :: r => uptoBulk d + uptoBulkAll r
def uptoBulkEntries {H : Type} : List (Lit × DataW H) → Nat
  | [] => 0
  | x :: r => uptoBulkEntry x + uptoBulkEntries r
def uptoBulkEntry {H : Type} : Lit × DataW H → Nat
  | (.string bytes, d) => bytes.length + uptoBulk d + 1
  | (_, d) => uptoBulk d + 1
 end
def uptoSmall : (H : Type) → List (DataW H) → Bool := fun _ ds => decide (uptoBulkAll ds ≤ 1048576)
def OpenSpec.upto (s : _root_.Go.ChangeSpec) : _root_.Go.OpenSpec := { _root_.Go.OpenSpec.ofChange s with cond := some uptoSmall }

/-- 'undertonelaw04.RecipeCans', WHERE WHAT IT READS IS OF BULK AT MOST 1048576: true; the input reads as it did. -/
def recipeCansUptoRow : OpenClaim := { program := "ythejfodjielahaa", sum := "a811fad9570760107eaf5dee96ade7e71882129ed44c953cc7b6c119e4184d3a", func := "undertone/undertonelaw04.RecipeCans", spec := "recipeCans", unfollowed := true, recurses := true, plainKeys := false, apart := false, narrowed := true }
def RecipeCansUptoSaid : Prop := recipeCansUptoRow.holds Try.pinned (OpenSpec.upto recipeCansSpec)

/-- 'undertonelaw04.RecipeHears', WHERE WHAT IT READS IS OF BULK AT MOST 1048576: true; the input reads as it did. -/
def recipeHearsUptoRow : OpenClaim := { program := "ythejfodjielahaa", sum := "a811fad9570760107eaf5dee96ade7e71882129ed44c953cc7b6c119e4184d3a", func := "undertone/undertonelaw04.RecipeHears", spec := "recipeHears", unfollowed := true, recurses := true, plainKeys := false, apart := false, narrowed := true }
def RecipeHearsUptoSaid : Prop := recipeHearsUptoRow.holds Try.pinned (OpenSpec.upto recipeHearsSpec)

/-- 'undertonelaw04.RecipeParts', WHERE WHAT IT READS IS OF BULK AT MOST 1048576: true; the input reads as it did. -/
def recipePartsUptoRow : OpenClaim := { program := "ythejfodjielahaa", sum := "a811fad9570760107eaf5dee96ade7e71882129ed44c953cc7b6c119e4184d3a", func := "undertone/undertonelaw04.RecipeParts", spec := "recipeParts", unfollowed := true, recurses := true, plainKeys := false, apart := false, narrowed := true }
def RecipePartsUptoSaid : Prop := recipePartsUptoRow.holds Try.pinned (OpenSpec.upto recipePartsSpec)

/-- 'undertonelaw04.RecipeJoins', WHERE WHAT IT READS IS OF BULK AT MOST 1048576: true; the input reads as it did. -/
def recipeJoinsUptoRow : OpenClaim := { program := "ythejfodjielahaa", sum := "a811fad9570760107eaf5dee96ade7e71882129ed44c953cc7b6c119e4184d3a", func := "undertone/undertonelaw04.RecipeJoins", spec := "recipeJoins", unfollowed := true, recurses := true, plainKeys := false, apart := false, narrowed := true }
def RecipeJoinsUptoSaid : Prop := recipeJoinsUptoRow.holds Try.pinned (OpenSpec.upto recipeJoinsSpec)

/-- 'undertonelaw04.RecipeRuns', WHERE WHAT IT READS IS OF BULK AT MOST 1048576: true; the input reads as it did. -/
def recipeRunsUptoRow : OpenClaim := { program := "ythejfodjielahaa", sum := "a811fad9570760107eaf5dee96ade7e71882129ed44c953cc7b6c119e4184d3a", func := "undertone/undertonelaw04.RecipeRuns", spec := "recipeRuns", unfollowed := true, recurses := true, plainKeys := false, apart := false, narrowed := true }
def RecipeRunsUptoSaid : Prop := recipeRunsUptoRow.holds Try.pinned (OpenSpec.upto recipeRunsSpec)

/-- 'undertonelaw04.RecipeAgain', WHERE WHAT IT READS IS OF BULK AT MOST 1048576: true; the input reads as it did. -/
def recipeAgainUptoRow : OpenClaim := { program := "ythejfodjielahaa", sum := "a811fad9570760107eaf5dee96ade7e71882129ed44c953cc7b6c119e4184d3a", func := "undertone/undertonelaw04.RecipeAgain", spec := "recipeAgain", unfollowed := true, recurses := true, plainKeys := false, apart := false, narrowed := true }
def RecipeAgainUptoSaid : Prop := recipeAgainUptoRow.holds Try.pinned (OpenSpec.upto recipeAgainSpec)

end Rows
end Go.Proofs.Ythejfodjielahaa
