/-
  DERIVED. GIVEN WITH THE SEED: THE CARDS: each row of YtkmgbcjfidpmgaaDoorRows.lean that lists a variable, with what it lists TIED to the program's text (the seventh form; the later family's looks); each row that meets fmt, with fmt's text TOLD by the authors' own Lean function (tested against real Go, not proved from fmt's source: count such statements apart). THE CARD IS WHAT COUNTS. Prove the row's statement (the work); the ties are given (YtkmgbcjfidpmgaaDoorTie.lean); close each card by the builder's one call (the guide's Derived/Test/ToyasCard.lean, 'card_holds'). Laid BY PROGRAM, IN A SANDBOX (cutbox-door.mjs). By AI agents, Wed Nov 11 2026. No macro, syntax, notation, axiom, sorry.
-/
import Derived.Test.YtkmgbcjfidpmgaaDoorRows
import GoSem.ClaimSeven
namespace Go.Proofs.YtkmgbcjfidpmgaaDoor
namespace Rows

/-- THE TIED CARD OF 'univocallaw02.RegexClassIsOneByte'. -/
def regexClassIsOneByteCard : Claim7 := { stood := { row := regexClassIsOneByteRow, standIns := [], harness := (true, "b651379e6b78244e688f879b8148d4ac0786b8d375ec4fd3786a80b54ffdf609"), looks := true }, kinds := [], alts := [], laidByText := true, laidKinds := [.data, .data, .data, .sentinel, .sentinel], laidTests := true, laidLooks := .later }
def RegexClassIsOneByteCardSaid : Prop := Claim7.holds Tryd.pinned (.plain (OpenSpec.ofChange regexClassIsOneByteSpec)) regexClassIsOneByteCard

/-- THE SECOND FORM's CARD OF 'univocallaw02.RegexClassIsOneByte'. -/
def regexClassIsOneByteUptoCard : Claim7 := { stood := { row := regexClassIsOneByteUptoRow, standIns := [], harness := (true, "b651379e6b78244e688f879b8148d4ac0786b8d375ec4fd3786a80b54ffdf609"), looks := true }, kinds := [], alts := [], laidByText := true, laidKinds := [.data, .data, .data, .sentinel, .sentinel], laidTests := true, laidLooks := .later }
def RegexClassIsOneByteUptoCardSaid : Prop := Claim7.holds Tryd.pinned (.plain (OpenSpec.upto regexClassIsOneByteSpec)) regexClassIsOneByteUptoCard
end Rows
end Go.Proofs.YtkmgbcjfidpmgaaDoor
