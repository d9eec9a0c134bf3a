/-
  DERIVED. GIVEN WITH THE SEED: THE CARDS: each row of YtcikdogkkgefcaaGreatDoorRows.lean that lists a variable, with what it lists TIED to the program's text (the seventh form; the later family's looks); each row that meets fmt, with fmt's text TOLD by the authors' own Lean function (tested against real Go, not proved from fmt's source: count such statements apart). THE CARD IS WHAT COUNTS. Prove the row's statement (the work); the ties are given (YtcikdogkkgefcaaGreatDoorTie.lean); close each card by the builder's one call (the guide's Derived/Test/ToyasCard.lean, 'card_holds'). Laid BY PROGRAM, IN A SANDBOX (cutbox-door.mjs). By AI agents, Wed Nov 11 2026. No macro, syntax, notation, axiom, sorry.
-/
import Derived.Test.YtcikdogkkgefcaaGreatDoorRows
import GoSem.ClaimSeven
namespace Go.Proofs.YtcikdogkkgefcaaGreatDoor
namespace Rows

/-- THE TIED CARD OF 'undertonetop.TopStatic'. -/
def topStaticCard : Claim7 := { stood := { row := topStaticRow, standIns := [], harness := (true, "5c8925004573a3213c5581deb004f3528524066faf1cf8265cd04a65bcdc1527"), looks := true }, kinds := [], alts := [], laidByText := true, laidKinds := [.data, .data, .data, .data, .sentinel, .sentinel, .listed, .data, .pinned], laidTests := true, laidLooks := .later }
def TopStaticCardSaid : Prop := Claim7.holds Tryz.pinned (.plain (OpenSpec.ofChange topStaticSpec)) topStaticCard

/-- THE TIED CARD OF 'undertonetop.TopForward'. -/
def topForwardCard : Claim7 := { stood := { row := topForwardRow, standIns := [], harness := (true, "5c8925004573a3213c5581deb004f3528524066faf1cf8265cd04a65bcdc1527"), looks := true }, kinds := [], alts := [], laidByText := true, laidKinds := [.data, .data, .data, .data, .sentinel, .sentinel, .listed, .data, .pinned], laidTests := true, laidLooks := .later }
def TopForwardCardSaid : Prop := Claim7.holds Tryz.pinned (.plain (OpenSpec.ofChange topForwardSpec)) topForwardCard

/-- THE TIED CARD OF 'undertonetop.TopDead'. -/
def topDeadCard : Claim7 := { stood := { row := topDeadRow, standIns := [], harness := (true, "5c8925004573a3213c5581deb004f3528524066faf1cf8265cd04a65bcdc1527"), looks := true }, kinds := [], alts := [], laidByText := true, laidKinds := [.data, .data, .data, .data, .sentinel, .sentinel, .listed, .data, .pinned], laidTests := true, laidLooks := .later }
def TopDeadCardSaid : Prop := Claim7.holds Tryz.pinned (.plain (OpenSpec.ofChange topDeadSpec)) topDeadCard

/-- THE SECOND FORM's CARD OF 'undertonetop.TopStatic'. -/
def topStaticUptoCard : Claim7 := { stood := { row := topStaticUptoRow, standIns := [], harness := (true, "5c8925004573a3213c5581deb004f3528524066faf1cf8265cd04a65bcdc1527"), looks := true }, kinds := [], alts := [], laidByText := true, laidKinds := [.data, .data, .data, .data, .sentinel, .sentinel, .listed, .data, .pinned], laidTests := true, laidLooks := .later }
def TopStaticUptoCardSaid : Prop := Claim7.holds Tryz.pinned (.plain (OpenSpec.upto topStaticSpec)) topStaticUptoCard

/-- THE SECOND FORM's CARD OF 'undertonetop.TopForward'. -/
def topForwardUptoCard : Claim7 := { stood := { row := topForwardUptoRow, standIns := [], harness := (true, "5c8925004573a3213c5581deb004f3528524066faf1cf8265cd04a65bcdc1527"), looks := true }, kinds := [], alts := [], laidByText := true, laidKinds := [.data, .data, .data, .data, .sentinel, .sentinel, .listed, .data, .pinned], laidTests := true, laidLooks := .later }
def TopForwardUptoCardSaid : Prop := Claim7.holds Tryz.pinned (.plain (OpenSpec.upto topForwardSpec)) topForwardUptoCard

/-- THE SECOND FORM's CARD OF 'undertonetop.TopDead'. -/
def topDeadUptoCard : Claim7 := { stood := { row := topDeadUptoRow, standIns := [], harness := (true, "5c8925004573a3213c5581deb004f3528524066faf1cf8265cd04a65bcdc1527"), looks := true }, kinds := [], alts := [], laidByText := true, laidKinds := [.data, .data, .data, .data, .sentinel, .sentinel, .listed, .data, .pinned], laidTests := true, laidLooks := .later }
def TopDeadUptoCardSaid : Prop := Claim7.holds Tryz.pinned (.plain (OpenSpec.upto topDeadSpec)) topDeadUptoCard
end Rows
end Go.Proofs.YtcikdogkkgefcaaGreatDoor
