/- Package script: a list of events that came in as an argument. -/
import Derived.Test.YtcnljflihhggiaaGreatDoorExRowL
import Derived.Test.YtcnljflihhggiaaGreatDoorModel
namespace Go.Proofs.YtcnljflihhggiaaGreatDoor
open Go Go.Ex Go.RowKit Go.ChangeShapes Go.WideShapes Go.ChangeAt

section
variable {H : Type} {enc : TypeId × Value → H} {P : Program}
/-- What is known of the type of events. -/
structure EvRowTy (P : Program) (e : TypeId) where
  f : Fin 4 → Field
  e8 : TypeId
  he : P.underlying e = some (.struct #[f 0, f 1, f 2, f 3])
  ce : P.cellsOf e = 4
  off : (f 0).offset = 0 ∧ (f 1).offset = 1 ∧ (f 2).offset = 2 ∧ (f 3).offset = 3
  cel : P.cellsOf (f 0).type = 1 ∧ P.cellsOf (f 1).type = 1 ∧ P.cellsOf (f 2).type = 1 ∧ P.cellsOf (f 3).type = 1
  ints : P.underlying (f 0).type = some (.int .i64) ∧ P.underlying (f 1).type = some (.int .i64) ∧ P.underlying (f 2).type = some (.int .i64)
  sl : P.underlying (f 3).type = some (.slice e8)
  u8 : P.underlying e8 = some (.int .u8)
  c8 : P.cellsOf e8 = 1
theorem ev_of {e : TypeId} (T : EvRowTy P e) {W : World} {n : Nat} {cs : List Value} {y : DataW H × List MemPlace} (hl : cs.length = 4) (h : DataW.trod enc P W 0 (fun _ => true) true n e cs = some y) : ∃ ev : Ev, EvR (Ex.whole W) cs ev := by
  obtain ⟨f, e8, he, ce, ⟨o0, o1, o2, o3⟩, ⟨c0, c1, c2, c3⟩, ⟨i0, i1, i2⟩, hsl, hu8, hc8⟩ := T
  obtain ⟨xs, k, _, _, _, hxl, hf⟩ := DataW.trod_struct he h
  match xs, hxl, cs, hl with
  | [y0, y1, y2, y3], _, [v0, v1, v2, v3], _ =>
    have g0 := hf 0 (f 0) rfl
    have g1 := hf 1 (f 1) rfl
    have g2 := hf 2 (f 2) rfl
    have g3 := hf 3 (f 3) rfl
    rw [o0, c0] at g0; rw [o1, c1] at g1; rw [o2, c2] at g2; rw [o3, c3] at g3
    obtain ⟨z0, rfl, _⟩ := int_cell i0 (x := y0) g0
    obtain ⟨z1, rfl, _⟩ := int_cell i1 (x := y1) g1
    obtain ⟨z2, rfl, _⟩ := int_cell i2 (x := y2) g2
    obtain ⟨bs, hb⟩ := bytes_row hsl hu8 hc8 (x := y3) g3
    exact ⟨⟨z0, z1, z2, bs⟩, v3, rfl, hb⟩
theorem evs_row {e : TypeId} (T : EvRowTy P e) {W : World} {v : Value} {t : TypeId} {fuel : Nat} {x : DataW H × List MemPlace} (ht : P.underlying t = some (.slice e))
    (h : DataW.trod enc P W 0 (fun _ => true) true fuel t [v] = some x) : ∃ l, Evs (Ex.whole W) v l ∧ Places x.1 l.length :=
  lst_row ht (by decide) T.ce default (fun _ _ _ hl hy => ev_of T hl hy) h
end
end Go.Proofs.YtcnljflihhggiaaGreatDoor
