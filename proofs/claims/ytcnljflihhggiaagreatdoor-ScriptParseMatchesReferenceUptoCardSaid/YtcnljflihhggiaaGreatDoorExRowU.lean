/- Rows of laws over package-level variables, and with a bound on the arguments: what the reading gives, with the lengths. -/
import Derived.Test.YtcnljflihhggiaaGreatDoorExRow
import Derived.Test.YtcnljflihhggiaaGreatDoorExWords
import Derived.Deep.DeepHandedRow
import Derived.Lib.LaidTab
namespace Go.Ex
open Go Go.RowKit Go.ChangeShapes Go.WideShapes Go.ChangeAt

section
variable {H : Type} {enc : TypeId × Value → H} {P : Program}
/-- The datum of n places. -/
def Places (d : DataW H) (n : Nat) : Prop := n = 0 ∨ ∃ el sp, d = .slice el sp ∧ el.length = n
theorem bytes_rowN {W : World} {v : Value} {t e : TypeId} {fuel : Nat} {x : DataW H × List MemPlace} (ht : P.underlying t = some (.slice e)) (he : P.underlying e = some (.int .u8)) (hc : P.cellsOf e = 1)
    (h : DataW.trod enc P W 0 (fun _ => true) true fuel t [v] = some x) : ∃ bs, Bytes (Ex.whole W) v bs ∧ Places x.1 bs.length := by
  obtain ⟨bs, hb⟩ := bytes_row ht he hc h
  refine ⟨bs, hb, ?_⟩
  rcases open_ints ht he hc h with ⟨hv, _⟩ | ⟨a, len, cap, zs, hv, _, hl, _, hz, hx, _, _⟩
  · obtain rfl : v = .slice none 0 0 := by simpa using hv
    obtain ⟨A, c, h1, _⟩ := hb
    injection h1 with _ h2 _
    exact .inl h2.symm
  · obtain rfl : v = .slice (some a) len cap := by simpa using hv
    obtain ⟨A, c, h1, _⟩ := hb
    injection h1 with _ h2 _
    refine .inr ⟨_, _, by rw [hx], ?_⟩
    simp only [if_true] at hz
    unfold lits
    rw [List.length_map, List.length_take, ← h2]; omega

/-- A variable of an integer type holds some integer. -/
theorem int_of_shape {w : World} {g : Nat} {t : TypeId} {zero : Array Value} (h : w.ShapedOpen P) (hg : g < P.globals.size)
    (h0 : ((begin P (fun _ _ => 0) default).world.heap[g]?).bind Obj.row? = some (zero, t)) (hz : zero.size = 1)
    (hb : P.buildable t = true) (hc : P.cellTypes P.depth t = some [t]) (hu : P.underlying t = some (.int .i64)) : ∃ m, w.cell? ⟨g, 0, none⟩ = some (.int .i64 m) := by
  obtain ⟨cs, hh, hs, hr⟩ := h.1 g zero t hg h0
  obtain ⟨ts, hts, _, hall⟩ := hr hb
  rw [hc] at hts
  cases hts
  have h1 : 0 < cs.size := by omega
  obtain ⟨u, hu', hok⟩ := hall 0 cs[0] (by simp [h1])
  have : u = t := by simpa using hu'.symm
  subst this
  have hcell : w.cell? ⟨g, 0, none⟩ = some cs[0] := by simp [World.cell?, hh, h1]
  rw [hcell]
  unfold Cell.ok at hok
  rw [hu] at hok
  cases hv : cs[0] <;> rw [hv] at hok <;> simp at hok
  rename_i k z
  exact ⟨z, by rw [hok.1]⟩
/-- An array of four words that came in. -/
theorem class_row {W : World} {v : Value} {t e : TypeId} {d : DataW H} {ps : List MemPlace} {r : Reach} {b0 : Nat} (ht : P.underlying t = some (.array 4 e)) (he : P.underlying e = some (.int .u64)) (hC : P.cellsOf t = 4) (hce : P.cellsOf e = 1)
    (hw : Value.okWide P W r b0 t v) (h : DataW.Trod enc P W 0 (fun _ => true) true t v d ps) : ∃ c : List Nat, v = ClsV c ∧ c.length = 4 ∧ ∀ w ∈ c, w < W64 := by
  simp only [Value.okWide, ht] at hw
  obtain ⟨⟨l⟩, rfl, h2, _⟩ := hw
  obtain ⟨fuel, hf⟩ := h
  obtain ⟨xs, m, rfl, _, hl, hn, hel⟩ := DataW.trod_array ht hf
  replace hl : l.length = 4 := by rw [← hC]; exact hl
  have key : ∀ i, i < 4 → ∃ a : Nat, l[i]? = some (u64V a) ∧ a < W64 := by
    intro i hi
    have h1 := hel i hi
    rw [hce, Nat.mul_one, List.getElem?_eq_getElem (by omega)] at h1
    obtain ⟨a, ea, _, wa⟩ := DataW.trod_int he h1
    have e1 : (l.drop i).take 1 = [l[i]'(by omega)] := by rw [List.drop_eq_getElem_cons (by omega)]; rfl
    have e2 : l[i]'(by omega) = .int .u64 a := by
      have e3 : [l[i]'(by omega)] = [Value.int .u64 a] := e1.symm.trans ea
      exact (List.cons.inj e3).1
    have hb : 0 ≤ a ∧ a ≤ 18446744073709551615 := by simpa [Lit.wf, IntKind.min, IntKind.max, IntKind.signed, IntKind.bits] using wa
    refine ⟨a.toNat, ?_, by unfold W64; omega⟩
    rw [List.getElem?_eq_getElem (by omega), e2]
    show some (Value.int .u64 a) = some (Value.int .u64 (a.toNat : Int))
    rw [Int.toNat_of_nonneg hb.1]
  obtain ⟨a0, k0, b0⟩ := key 0 (by omega)
  obtain ⟨a1, k1, b1⟩ := key 1 (by omega)
  obtain ⟨a2, k2, b2⟩ := key 2 (by omega)
  obtain ⟨a3, k3, b3⟩ := key 3 (by omega)
  match l, hl, k0, k1, k2, k3 with
  | [w, x, y, z], _, k0, k1, k2, k3 =>
    simp at k0 k1 k2 k3
    subst k0 k1 k2 k3
    refine ⟨[a0, a1, a2, a3], rfl, rfl, fun w hw => ?_⟩
    simp only [List.mem_cons, List.not_mem_nil, or_false] at hw
    rcases hw with rfl | rfl | rfl | rfl <;> assumption
end
end Go.Ex
