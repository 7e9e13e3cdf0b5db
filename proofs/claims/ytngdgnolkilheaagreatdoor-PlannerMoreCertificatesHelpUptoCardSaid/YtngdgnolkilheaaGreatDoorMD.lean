/- Part 4 of the walk through the functions that the laws of package fleet call: each function's contract, without conditions but those that its statement names. -/
import Derived.Test.YtngdgnolkilheaaGreatDoorMC
set_option maxHeartbeats 4000000
set_option maxRecDepth 10000
set_option linter.unusedVariables false
set_option linter.unusedSimpArgs false
set_option linter.unusedSectionVars false
namespace Go.Proofs.YtngdgnolkilheaaGreatDoor
open Go Go.Ex Go.RowKit Go.Proofs.Tryz
def w64B (l:List Nat):Bool:=l.all fun w=>decide (w<W64)
def xH (c:List Nat):Bool :=
  let p:=Hd (Ji [0,0,0,0]) c
  let q:=Lk (Ji [0,0,0,0]) c
  decide (c.length=4) && (w64B c && (w64B p && (w64B q && (decide (p≠[0,0,0,0]) && (decide (q≠[0,0,0,0]) && (decide (Ni c≠0) && (decide (Kp (Eb c)=0) &&
  match (By p)[0]?,(By q)[0]? with
  | some x,some y=>decide (y.toNat<x.toNat) && (Wf c x && (!Wf c y && (Hm (Mc p q) && (decide (Ch (Mc p q)).ok && match Fb (Ch (Mc p q)),Fb Ir with
    | some D,some E0=>decide Ir.ok && match dS D with
      | some D2=>(dT E0 D2).isSome
      | none=>false
    | _,_=>false))))
  | _,_=>false)))))))
theorem chk_A:xH sC=true:=by decide +kernel
end Go.Proofs.YtngdgnolkilheaaGreatDoor
