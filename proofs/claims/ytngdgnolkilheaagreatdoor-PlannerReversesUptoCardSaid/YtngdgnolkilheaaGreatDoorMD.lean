/- Part 4 of the walk through the functions that the laws of package fleet call: each function's contract, without conditions but those that its statement names. -/
import Derived.Test.YtngdgnolkilheaaGreatDoorMC
set_option maxHeartbeats 4000000
set_option maxRecDepth 10000
set_option linter.unusedVariables false
set_option linter.unusedSimpArgs false
set_option linter.unusedSectionVars false
namespace Go.Proofs.YtngdgnolkilheaaGreatDoor
open Go Go.Ex Go.RowKit Go.Proofs.Tryz
def w64B (l:List Nat):Bool:=l.all fun w=>decide (w<W64)
def wX (c:List Nat):Bool :=
  let p:=Gz (Je [0,0,0,0]) c
  let q:=Lc (Je [0,0,0,0]) c
  decide (c.length=4) && (w64B c && (w64B p && (w64B q && (decide (p≠[0,0,0,0]) && (decide (q≠[0,0,0,0]) && (decide (Mx c≠0) && (decide (Kj (Dy c)=0) &&
  match (Bu p)[0]?,(Bu q)[0]? with
  | some x,some y=>decide (y.toNat<x.toNat) && (Vv c x && (!Vv c y && (Hm (Lt p q) && (decide (Cf (Lt p q)).ok && match Eu (Cf (Lt p q)),Eu Io with
    | some D,some E0=>decide Io.ok && match dP D with
      | some D2=>(dQ E0 D2).isSome
      | none=>false
    | _,_=>false))))
  | _,_=>false)))))))
theorem chk_A:wX rV=true:=by decide +kernel
end Go.Proofs.YtngdgnolkilheaaGreatDoor
