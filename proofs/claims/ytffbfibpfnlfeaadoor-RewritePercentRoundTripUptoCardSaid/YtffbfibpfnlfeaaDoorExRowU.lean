/- Rows of laws over package-level variables, and with a bound on the arguments: what the reading gives, with the lengths. -/
import Derived.Test.YtffbfibpfnlfeaaDoorExRow
import Derived.Deep.DeepHandedRow
import Derived.Lib.LaidTab
namespace Go.Ex
open Go Go.RowKit Go.ChangeShapes Go.WideShapes Go.ChangeAt

section
variable {H : Type} {enc : TypeId × Value → H} {P : Program}
/-- The datum of n places. -/
def Places (d : DataW H) (n : Nat) : Prop := n = 0 ∨ ∃ el sp, d = .slice el sp ∧ el.length = n
theorem bytes_rowN {W : World} {v : Value} {t e : TypeId} {fuel : Nat} {x : DataW H × List MemPlace} (ht : P.underlying t = some (.slice e)) (he : P.underlying e = some (.int .u8)) (hc : P.cellsOf e = 1)
    (h : DataW.trod enc P W 0 (fun _ => true) true fuel t [v] = some x) : ∃ bs, Bytes (Ex.whole W) v bs ∧ Places x.1 bs.length := by
  obtain ⟨bs, hb⟩ := bytes_row ht he hc h
  refine ⟨bs, hb, ?_⟩
  rcases open_ints ht he hc h with ⟨hv, _⟩ | ⟨a, len, cap, zs, hv, _, hl, _, hz, hx, _, _⟩
  · obtain rfl : v = .slice none 0 0 := by simpa using hv
    obtain ⟨A, c, h1, _⟩ := hb
    injection h1 with _ h2 _
    exact .inl h2.symm
  · obtain rfl : v = .slice (some a) len cap := by simpa using hv
    obtain ⟨A, c, h1, _⟩ := hb
    injection h1 with _ h2 _
    refine .inr ⟨_, _, by rw [hx], ?_⟩
    simp only [if_true] at hz
    unfold lits
    rw [List.length_map, List.length_take, ← h2]; omega

/-- A variable of an integer type holds some integer. -/
theorem int_of_shape {w : World} {g : Nat} {t : TypeId} {zero : Array Value} (h : w.ShapedOpen P) (hg : g < P.globals.size)
    (h0 : ((begin P (fun _ _ => 0) default).world.heap[g]?).bind Obj.row? = some (zero, t)) (hz : zero.size = 1)
    (hb : P.buildable t = true) (hc : P.cellTypes P.depth t = some [t]) (hu : P.underlying t = some (.int .i64)) : ∃ m, w.cell? ⟨g, 0, none⟩ = some (.int .i64 m) := by
  obtain ⟨cs, hh, hs, hr⟩ := h.1 g zero t hg h0
  obtain ⟨ts, hts, _, hall⟩ := hr hb
  rw [hc] at hts
  cases hts
  have h1 : 0 < cs.size := by omega
  obtain ⟨u, hu', hok⟩ := hall 0 cs[0] (by simp [h1])
  have : u = t := by simpa using hu'.symm
  subst this
  have hcell : w.cell? ⟨g, 0, none⟩ = some cs[0] := by simp [World.cell?, hh, h1]
  rw [hcell]
  unfold Cell.ok at hok
  rw [hu] at hok
  cases hv : cs[0] <;> rw [hv] at hok <;> simp at hok
  rename_i k z
  exact ⟨z, by rw [hok.1]⟩
end
end Go.Ex
