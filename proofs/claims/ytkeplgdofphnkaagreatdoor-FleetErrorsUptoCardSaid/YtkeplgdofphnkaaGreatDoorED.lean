/- Part 4 of the walk through the functions that the laws of package fleet call: each function's contract, without conditions but those that its statement names. -/
import Derived.Test.YtkeplgdofphnkaaGreatDoorEC
set_option maxHeartbeats 4000000
set_option maxRecDepth 10000
set_option linter.unusedVariables false
set_option linter.unusedSimpArgs false
set_option linter.unusedSectionVars false
namespace Go.Proofs.YtkeplgdofphnkaaGreatDoor
open Go Go.Ex Go.RowKit Go.Proofs.Tryz
def w64B (l:List Nat):Bool:=l.all fun w=>decide (w<W64)
def chkC (c:List Nat):Bool :=
  let p:=interF (notF [0,0,0,0]) c
  let q:=minusF (notF [0,0,0,0]) c
  decide (c.length=4) && (w64B c && (w64B p && (w64B q && (decide (p≠[0,0,0,0]) && (decide (q≠[0,0,0,0]) && (decide (sizeF c≠0) && (decide (validF (starX c)=0) &&
  match (bytesF p)[0]?,(bytesF q)[0]? with
  | some x,some y=>decide (y.toNat<x.toNat) && (hasF c x && (!hasF c y && (validD (lettD p q) && (decide (tabF (lettD p q)).ok && match canonF (tabF (lettD p q)),canonF emptyT with
    | some D,some E0=>decide emptyT.ok && match starC D with
      | some D2=>(concC E0 D2).isSome
      | none=>false
    | _,_=>false))))
  | _,_=>false)))))))
theorem chk_A:chkC clA=true:=by decide +kernel
end Go.Proofs.YtkeplgdofphnkaaGreatDoor
