/- Rows of laws: a list of elements of k cells each that came in as an argument. -/
import Derived.Test.YtcnljflihhggiaaGreatDoorExRowU
import Derived.Test.YtcnljflihhggiaaGreatDoorExLists
import Derived.Deep.Slices
namespace Go.Ex
open Go Go.RowKit Go.ChangeShapes Go.WideShapes Go.ChangeAt

section
variable {H : Type} {enc : TypeId × Value → H} {P : Program}
theorem flat_len {k : Nat} : ∀ ls : List (List Value), (∀ c ∈ ls, c.length = k) → ls.flatten.length = ls.length * k
  | [], _ => by simp
  | c :: ls, h => by
    rw [List.flatten_cons, List.length_append, h c (by simp), flat_len ls fun m hm => h m (by simp [hm]), List.length_cons, Nat.add_mul]; omega
theorem all2_map {β α : Type} {R : List Value → α → Prop} (f : β → List Value) (g : β → α) : ∀ ls : List β, (∀ b ∈ ls, R (f b) (g b)) → All2 R (ls.map f) (ls.map g)
  | [], _ => trivial
  | b :: ls, h => ⟨h b (by simp), all2_map f g ls fun m hm => h m (by simp [hm])⟩
theorem lst_row {α : Type} {k : Nat} {R : Ghost → List Value → α → Prop} {e t : TypeId} {W : World} {v : Value} {fuel : Nat} {x : DataW H × List MemPlace} (ht : P.underlying t = some (.slice e)) (hk : 0 < k) (ce : P.cellsOf e = k) (a0 : α)
    (hel : ∀ (n : Nat) (cs : List Value) (y : DataW H × List MemPlace), cs.length = k → DataW.trod enc P W 0 (fun _ => true) true n e cs = some y → ∃ a, R (Ex.whole W) cs a)
    (h : DataW.trod enc P W 0 (fun _ => true) true fuel t [v] = some x) : ∃ l, LstR k R (Ex.whole W) v l ∧ Places x.1 l.length := by
  rcases Deep.open_slice ht h with ⟨hv, hx⟩ | ⟨a, len, cap, m, n, D, Pl, hv, _, hl, hm, hmm, hx, hall⟩
  · obtain rfl : v = .slice none 0 0 := by simpa using hv
    exact ⟨[], LstR.nil, .inl rfl⟩
  · obtain rfl : v = .slice (some a) len cap := by simpa using hv
    simp only [if_true] at hmm
    haveI : Inhabited (List Value × α) := ⟨([], a0)⟩
    obtain ⟨F, hF⟩ := Deep.choose_lt (α := List Value × α) (p := fun i c => c.1.length = k ∧ R (Ex.whole W) c.1 c.2 ∧ ∀ r, r < k → W.cell? (a.add (i * k + r)) = c.1[r]?) (n := len) (fun i hi => by
      obtain ⟨cs, h1, h2⟩ := hall i (by omega)
      rw [ce] at h1
      obtain ⟨_, hlen, hcell⟩ := World.cells?_some h1
      obtain ⟨nd, hc⟩ := hel _ _ _ hlen h2
      refine ⟨(cs, nd), hlen, hc, fun r hr => ?_⟩
      rw [← hcell r hr, addr_add_add])
    have hcs : ∀ c ∈ (List.range len).map fun i => (F i).1, c.length = k := by
      intro c hc
      obtain ⟨i, hi, rfl⟩ := List.mem_map.1 hc
      exact (hF i (List.mem_range.1 hi)).1
    refine ⟨(List.range len).map fun i => (F i).2, ⟨(List.range len).map fun i => (F i).1, ⟨some a, cap, by simp, ?_, by simpa using hl, hm, fun _ => ⟨a, rfl, fun j u hj => ?_⟩⟩, ?_, hcs⟩, ?_⟩
    · rw [flat_len _ hcs]; simp
    · rw [gcell_whole]
      have hjl : j < len * k := by
        have h1 := (List.getElem?_eq_some_iff.1 hj).1
        rw [flat_len _ hcs] at h1
        simpa using h1
      have hi : j / k < len := Nat.div_lt_of_lt_mul (by rw [Nat.mul_comm]; exact hjl)
      have hr : j % k < k := Nat.mod_lt _ hk
      have hget : ((List.range len).map fun i => (F i).1)[j / k]? = some (F (j / k)).1 := by simp [hi]
      have hfl := flatten_at _ (j / k) _ hcs hget
      have h2 := (hF (j / k) hi).2.2 (j % k) hr
      have hjj : j / k * k + j % k = j := by rw [Nat.mul_comm]; exact Nat.div_add_mod j k
      rw [hjj] at h2
      rw [h2, ← hfl, List.getElem?_take_of_lt hr, List.getElem?_drop, hjj]
      exact hj
    · exact all2_map (R := R (Ex.whole W)) _ _ _ fun i hi => (hF i (List.mem_range.1 hi)).2.1
    · exact .inr ⟨_, _, by rw [hx], by simp⟩
/-- An array of two numbers that came in, as cells. -/
theorem pair_cells {W : World} {t e : TypeId} {k : IntKind} {fuel : Nat} {cs : List Value} {x : DataW H × List MemPlace} (ht : P.underlying t = some (.array 2 e)) (he : P.underlying e = some (.int k)) (hc1 : P.cellsOf e = 1) (hl : cs.length = 2)
    (h : DataW.trod enc P W 0 (fun _ => true) true fuel t cs = some x) : ∃ za zb : Int, cs = [.int k za, .int k zb] ∧ (Lit.int k za).wf = true ∧ (Lit.int k zb).wf = true := by
  obtain ⟨xs, m, _, _, _, hn, hx⟩ := DataW.trod_array ht h
  match cs, hl with
  | [c0, c1], _ =>
    have h0 := hx 0 (by omega)
    have h1 := hx 1 (by omega)
    rw [hc1] at h0 h1
    have e0 : ∃ y, DataW.trod enc P W 0 (fun _ => true) true m e [c0] = some y := ⟨xs[0]'(by omega), by rw [← List.getElem?_eq_getElem]; simpa using h0⟩
    have e1 : ∃ y, DataW.trod enc P W 0 (fun _ => true) true m e [c1] = some y := ⟨xs[1]'(by omega), by rw [← List.getElem?_eq_getElem]; simpa using h1⟩
    obtain ⟨y0, e0⟩ := e0
    obtain ⟨y1, e1⟩ := e1
    obtain ⟨za, rfl, wa⟩ := int_cell he e0
    obtain ⟨zb, rfl, wb⟩ := int_cell he e1
    exact ⟨za, zb, rfl, wa, wb⟩
/-- The same as a value. -/
theorem pair_val {W : World} {t e : TypeId} {k : IntKind} {r : Reach} {b0 : Nat} {v : Value} {fuel : Nat} {x : DataW H × List MemPlace} (ht : P.underlying t = some (.array 2 e)) (he : P.underlying e = some (.int k)) (hc : P.cellsOf t = 2) (hc1 : P.cellsOf e = 1)
    (hv : Value.okWide P W r b0 t v) (h : DataW.trod enc P W 0 (fun _ => true) true fuel t v.cells.toList = some x) : ∃ za zb : Int, v = .agg #[.int k za, .int k zb] ∧ (Lit.int k za).wf = true ∧ (Lit.int k zb).wf = true := by
  obtain ⟨_, _, _, _, hl, _⟩ := DataW.trod_array ht h
  have hagg : ∃ cs, v = .agg cs := by
    simp only [Value.okWide, ht] at hv
    cases v <;> simp_all
  obtain ⟨cs, rfl⟩ := hagg
  have hl2 : cs.toList.length = 2 := hl.trans hc
  obtain ⟨za, zb, h1, h2, h3⟩ := pair_cells ht he hc1 hl2 h
  exact ⟨za, zb, by rw [← Array.toArray_toList (xs := cs)]; exact congrArg (fun l : List Value => Value.agg l.toArray) h1, h2, h3⟩
theorem u16_of {z : Int} (h : (Lit.int .u16 z).wf = true) : ∃ y : UInt16, z = (y.toNat : Int) := by
  have hx : 0 ≤ z ∧ z ≤ 65535 := by simpa [Lit.wf, IntKind.min, IntKind.max, IntKind.signed, IntKind.bits] using h
  exact ⟨UInt16.ofNat z.toNat, by rw [UInt16.toNat_ofNat']; omega⟩
theorem u8_of {z : Int} (h : (Lit.int .u8 z).wf = true) : ∃ y : UInt8, z = (y.toNat : Int) := by
  have hx : 0 ≤ z ∧ z ≤ 255 := by simpa [Lit.wf, IntKind.min, IntKind.max, IntKind.signed, IntKind.bits] using h
  exact ⟨UInt8.ofNat z.toNat, by rw [UInt8.toNat_ofNat']; omega⟩
theorem u16s_row {W : World} {v : Value} {t e e1 : TypeId} {fuel : Nat} {x : DataW H × List MemPlace} (ht : P.underlying t = some (.slice e)) (he : P.underlying e = some (.array 2 e1)) (he1 : P.underlying e1 = some (.int .u16)) (hc : P.cellsOf e = 2) (hc1 : P.cellsOf e1 = 1)
    (h : DataW.trod enc P W 0 (fun _ => true) true fuel t [v] = some x) : ∃ l : List (UInt16 × UInt16), LstR 2 (fun _ cs p => cs = [.int .u16 (p.1.toNat : Int), .int .u16 (p.2.toNat : Int)]) (Ex.whole W) v l ∧ Places x.1 l.length :=
  lst_row ht (by decide) hc (0, 0) (fun _ cs _ hl hy => by
    obtain ⟨za, zb, rfl, wa, wb⟩ := pair_cells he he1 hc1 hl hy
    obtain ⟨a, rfl⟩ := u16_of wa
    obtain ⟨b, rfl⟩ := u16_of wb
    exact ⟨(a, b), rfl⟩) h
end
end Go.Ex
