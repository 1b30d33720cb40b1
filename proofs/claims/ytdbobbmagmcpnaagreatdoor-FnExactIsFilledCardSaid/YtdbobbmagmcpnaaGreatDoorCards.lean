/-
  DERIVED. GIVEN WITH THE SEED: THE CARDS: each row of YtdbobbmagmcpnaaGreatDoorRows.lean that lists a variable, with what it lists TIED to the program's text (the seventh form; the later family's looks); each row that meets fmt, with fmt's text TOLD by the authors' own Lean function (tested against real Go, not proved from fmt's source: count such statements apart). THE CARD IS WHAT COUNTS. Prove the row's statement (the work); the ties are given (YtdbobbmagmcpnaaGreatDoorTie.lean); close each card by the builder's one call (the guide's Derived/Test/ToyasCard.lean, 'card_holds'). Laid BY PROGRAM, IN A SANDBOX (cutbox-door.mjs). By AI agents, Wed Nov 11 2026. No macro, syntax, notation, axiom, sorry.
-/
import Derived.Test.YtdbobbmagmcpnaaGreatDoorRows
import GoSem.ClaimSeven
namespace Go.Proofs.YtdbobbmagmcpnaaGreatDoor
namespace Rows

/-- THE TIED CARD OF 'laws.FnExactRowsIn'. -/
def fnExactRowsInCard : Claim7 := { stood := { row := fnExactRowsInRow, standIns := [], harness := (true, "60269fc0c9af726ffb26b5bdcc19ded22927687ddc616b762dde8c0f64862212"), looks := false }, kinds := [], alts := [], laidByText := true, laidKinds := [.data, .pinned], laidTests := true, laidLooks := .later }
def FnExactRowsInCardSaid : Prop := Claim7.holds Tryz.pinned (.plain (OpenSpec.ofChange fnExactRowsInSpec)) fnExactRowsInCard

/-- THE TIED CARD OF 'laws.FnExactIsFilled'. -/
def fnExactIsFilledCard : Claim7 := { stood := { row := fnExactIsFilledRow, standIns := [], harness := (true, "60269fc0c9af726ffb26b5bdcc19ded22927687ddc616b762dde8c0f64862212"), looks := false }, kinds := [], alts := [], laidByText := true, laidKinds := [.data, .pinned], laidTests := true, laidLooks := .later }
def FnExactIsFilledCardSaid : Prop := Claim7.holds Tryz.pinned (.plain (OpenSpec.ofChange fnExactIsFilledSpec)) fnExactIsFilledCard

/-- THE SECOND FORM's CARD OF 'laws.FnExactRowsIn'. -/
def fnExactRowsInUptoCard : Claim7 := { stood := { row := fnExactRowsInUptoRow, standIns := [], harness := (true, "60269fc0c9af726ffb26b5bdcc19ded22927687ddc616b762dde8c0f64862212"), looks := false }, kinds := [], alts := [], laidByText := true, laidKinds := [.data, .pinned], laidTests := true, laidLooks := .later }
def FnExactRowsInUptoCardSaid : Prop := Claim7.holds Tryz.pinned (.plain (OpenSpec.upto fnExactRowsInSpec)) fnExactRowsInUptoCard

/-- THE SECOND FORM's CARD OF 'laws.FnExactIsFilled'. -/
def fnExactIsFilledUptoCard : Claim7 := { stood := { row := fnExactIsFilledUptoRow, standIns := [], harness := (true, "60269fc0c9af726ffb26b5bdcc19ded22927687ddc616b762dde8c0f64862212"), looks := false }, kinds := [], alts := [], laidByText := true, laidKinds := [.data, .pinned], laidTests := true, laidLooks := .later }
def FnExactIsFilledUptoCardSaid : Prop := Claim7.holds Tryz.pinned (.plain (OpenSpec.upto fnExactIsFilledSpec)) fnExactIsFilledUptoCard
end Rows
end Go.Proofs.YtdbobbmagmcpnaaGreatDoor
