/-
  DERIVED. GIVEN WITH THE SEED: THE CARDS: each row of YtdbobbmagmcpnaaDoorRows.lean that lists a variable, with what it lists TIED to the program's text (the seventh form; the later family's looks); each row that meets fmt, with fmt's text TOLD by the authors' own Lean function (tested against real Go, not proved from fmt's source: count such statements apart). THE CARD IS WHAT COUNTS. Prove the row's statement (the work); the ties are given (YtdbobbmagmcpnaaDoorTie.lean); close each card by the builder's one call (the guide's Derived/Test/ToyasCard.lean, 'card_holds'). Laid BY PROGRAM, IN A SANDBOX (cutbox-door.mjs). By AI agents, Wed Nov 11 2026. No macro, syntax, notation, axiom, sorry.
-/
import Derived.Test.YtdbobbmagmcpnaaDoorRows
import GoSem.ClaimSeven
namespace Go.Proofs.YtdbobbmagmcpnaaDoor
namespace Rows

/-- THE TIED CARD OF 'laws.FnExactReadRow'. -/
def fnExactReadRowCard : Claim7 := { stood := { row := fnExactReadRowRow, standIns := [], harness := (true, "aaaf775a855bc30510babb3d8be7045d092983c802b3cd3edad2b1da479e5287"), looks := false }, kinds := [], alts := [], laidByText := true, laidKinds := [.data, .pinned], laidTests := true, laidLooks := .later }
def FnExactReadRowCardSaid : Prop := Claim7.holds Tryd.pinned (.plain (OpenSpec.ofChange fnExactReadRowSpec)) fnExactReadRowCard

/-- THE TIED CARD OF 'laws.FnExactReadStmt'. -/
def fnExactReadStmtCard : Claim7 := { stood := { row := fnExactReadStmtRow, standIns := [], harness := (true, "aaaf775a855bc30510babb3d8be7045d092983c802b3cd3edad2b1da479e5287"), looks := false }, kinds := [], alts := [], laidByText := true, laidKinds := [.data, .pinned], laidTests := true, laidLooks := .later }
def FnExactReadStmtCardSaid : Prop := Claim7.holds Tryd.pinned (.plain (OpenSpec.ofChange fnExactReadStmtSpec)) fnExactReadStmtCard

/-- THE SECOND FORM's CARD OF 'laws.FnExactReadRow'. -/
def fnExactReadRowUptoCard : Claim7 := { stood := { row := fnExactReadRowUptoRow, standIns := [], harness := (true, "aaaf775a855bc30510babb3d8be7045d092983c802b3cd3edad2b1da479e5287"), looks := false }, kinds := [], alts := [], laidByText := true, laidKinds := [.data, .pinned], laidTests := true, laidLooks := .later }
def FnExactReadRowUptoCardSaid : Prop := Claim7.holds Tryd.pinned (.plain (OpenSpec.upto fnExactReadRowSpec)) fnExactReadRowUptoCard

/-- THE SECOND FORM's CARD OF 'laws.FnExactReadStmt'. -/
def fnExactReadStmtUptoCard : Claim7 := { stood := { row := fnExactReadStmtUptoRow, standIns := [], harness := (true, "aaaf775a855bc30510babb3d8be7045d092983c802b3cd3edad2b1da479e5287"), looks := false }, kinds := [], alts := [], laidByText := true, laidKinds := [.data, .pinned], laidTests := true, laidLooks := .later }
def FnExactReadStmtUptoCardSaid : Prop := Claim7.holds Tryd.pinned (.plain (OpenSpec.upto fnExactReadStmtSpec)) fnExactReadStmtUptoCard
end Rows
end Go.Proofs.YtdbobbmagmcpnaaDoor
