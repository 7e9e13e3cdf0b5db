/- Part 4 of the walk through the functions that the laws of package fleet call: each function's contract, without conditions but those that its statement names. -/
import Derived.Test.YtngdgnolkilheaaGreatDoorMC
set_option maxHeartbeats 4000000
set_option maxRecDepth 10000
set_option linter.unusedVariables false
set_option linter.unusedSimpArgs false
set_option linter.unusedSectionVars false
namespace Go.Proofs.YtngdgnolkilheaaGreatDoor
open Go Go.Ex Go.RowKit Go.Proofs.Tryz
def w64B (l:List Nat):Bool:=l.all fun w=>decide (w<W64)
def wL (c:List Nat):Bool :=
  let p:=Hb (Jg [0,0,0,0]) c
  let q:=Lf (Jg [0,0,0,0]) c
  decide (c.length=4) && (w64B c && (w64B p && (w64B q && (decide (p≠[0,0,0,0]) && (decide (q≠[0,0,0,0]) && (decide (Nc c≠0) && (decide (Kj (Ec c)=0) &&
  match (Bv p)[0]?,(Bv q)[0]? with
  | some x,some y=>decide (y.toNat<x.toNat) && (Vv c x && (!Vv c y && (Hn (Ly p q) && (decide (Cf (Ly p q)).ok && match Ey (Cf (Ly p q)),Ey Im with
    | some D,some E0=>decide Im.ok && match dM D with
      | some D2=>(dN E0 D2).isSome
      | none=>false
    | _,_=>false))))
  | _,_=>false)))))))
theorem chk_A:wL rK=true:=by decide +kernel
end Go.Proofs.YtngdgnolkilheaaGreatDoor
