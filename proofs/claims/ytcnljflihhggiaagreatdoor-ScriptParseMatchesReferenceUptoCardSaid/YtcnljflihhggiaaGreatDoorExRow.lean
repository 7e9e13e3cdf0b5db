/- From a law's contract to its row: the arguments' reading, and what is the same behind the call. -/
import Derived.Test.YtcnljflihhggiaaGreatDoorExData
import Derived.Carry
import Derived.ChangeSlices
import Derived.Deep.Slices
import Derived.Lib.SmallJoins
import Derived.ProofKit
import Derived.OpenShut
namespace Go.Ex
open Go Go.RowKit Go.ChangeShapes Go.WideShapes Go.ChangeAt

/-- All that lies there at the call. -/
def whole (W : World) : Ghost := fun k => W.heap[k]?
theorem St.whole (W : World) : St ⟨W, whole W, feet []⟩ (whole W) [] W :=
  ⟨rfl, rfl, rfl, Nat.le_refl _, fun _ _ _ => rfl, Ghost.le.refl _, fun _ _ h => .inl h, fun _ _ h => h, (fun _ h => by cases h), (fun _ h => by cases h), List.Pairwise.nil⟩
theorem gcell_whole (W : World) (a : Addr) : gcell (whole W) a = W.cell? a := by
  unfold gcell Ex.whole World.cell?
  cases W.heap[a.block]? with
  | none => rfl
  | some o => cases o <;> rfl

theorem law_calls {P : Program} {f : FuncId} {args : List Value} {W : World} (h : FnOk P f args (Ex.whole W) [] fun r _ H' => H' = [] ∧ r = .bool true) :
    Calls P f args.toArray W fun e W' => e = .returned (.bool true) ∧ Below W.heap.size W W' :=
  (h W (St.whole W)).mono fun e W' ⟨v, G', H', he, hs, hH, hv⟩ => by
    subst hH hv
    exact ⟨he, by
      refine ⟨hs.os, hs.tape, hs.output, hs.size, fun k hk => hs.old k hk (fun ⟨r, hr, _⟩ => by cases hr)⟩⟩

section
variable {H : Type} {enc : TypeId × Value → H} {P : Program}
theorem cell_row {W : World} {v : Value} {t e : TypeId} {k : IntKind} {fuel : Nat} {x : DataW H × List MemPlace} (ht : P.underlying t = some (.slice e)) (he : P.underlying e = some (.int k)) (hc : P.cellsOf e = 1)
    (h : DataW.trod enc P W 0 (fun _ => true) true fuel t [v] = some x) : ∃ zs : List Int, (∀ z ∈ zs, (Lit.int k z).wf = true) ∧ Sl (Ex.whole W) v 1 zs.length (zs.map (.int k)) := by
  rcases open_ints ht he hc h with ⟨hv, _⟩ | ⟨a, len, cap, zs, hv, _, hl, hm, hz, _, hcell, hwz⟩
  · obtain rfl : v = .slice none 0 0 := by simpa using hv
    exact ⟨[], by simp, Sl.nil _ _⟩
  · obtain rfl : v = .slice (some a) len cap := by simpa using hv
    simp only [if_true] at hz
    have hlen : (zs.take len).length = len := by rw [List.length_take]; omega
    refine ⟨zs.take len, fun z hz => hwz z (List.mem_of_mem_take hz), some a, cap, by rw [hlen], by simp, by omega, hm, fun _ => ⟨a, rfl, fun j u hj => ?_⟩⟩
    rw [gcell_whole]
    have hj' : j < len := by
      have := (List.getElem?_eq_some_iff.1 hj).1
      rw [List.length_map, hlen] at this; exact this
    rw [hcell j (by omega)]
    rw [List.getElem?_map, List.getElem?_take_of_lt hj'] at hj
    have hjz : j < zs.length := by omega
    rw [List.getElem?_eq_getElem hjz] at hj
    simp [List.getD, List.getElem?_eq_getElem hjz] at hj ⊢
    exact hj
theorem bytes_row {W : World} {v : Value} {t e : TypeId} {fuel : Nat} {x : DataW H × List MemPlace} (ht : P.underlying t = some (.slice e)) (he : P.underlying e = some (.int .u8)) (hc : P.cellsOf e = 1)
    (h : DataW.trod enc P W 0 (fun _ => true) true fuel t [v] = some x) : ∃ bs, Bytes (Ex.whole W) v bs := by
  obtain ⟨zs, hw, hs⟩ := cell_row ht he hc h
  refine ⟨zs.map fun z => UInt8.ofNat z.toNat, Bytes.ofSl hs (by simp) ?_⟩
  rw [List.map_map]
  refine List.map_congr_left fun z hz => ?_
  have hx : 0 ≤ z ∧ z ≤ 255 := by simpa [Lit.wf, IntKind.min, IntKind.max, IntKind.signed, IntKind.bits] using hw z hz
  show Value.int .u8 z = .int .u8 ((UInt8.ofNat z.toNat).toNat : Int)
  congr 1
  simp
  omega
theorem ints_row {W : World} {v : Value} {t e : TypeId} {fuel : Nat} {x : DataW H × List MemPlace} (ht : P.underlying t = some (.slice e)) (he : P.underlying e = some (.int .i64)) (hc : P.cellsOf e = 1)
    (h : DataW.trod enc P W 0 (fun _ => true) true fuel t [v] = some x) : ∃ l, (∀ z ∈ l, (Lit.int .i64 z).wf = true) ∧ Ints (Ex.whole W) v l := cell_row ht he hc h
theorem lbytes_row {W : World} {v : Value} {t t1 e : TypeId} {fuel : Nat} {x : DataW H × List MemPlace} (ht : P.underlying t = some (.slice t1)) (hc1 : P.cellsOf t1 = 1) (ht1 : P.underlying t1 = some (.slice e)) (he : P.underlying e = some (.int .u8)) (hc : P.cellsOf e = 1)
    (h : DataW.trod enc P W 0 (fun _ => true) true fuel t [v] = some x) : ∃ l, LBytes (Ex.whole W) v l := by
  rcases Deep.open_slice1 ht hc1 h with ⟨hv, _⟩ | ⟨a, len, cap, m, n, V, D, Pl, hv, _, hl, hm, hmm, _, hcell⟩
  · obtain rfl : v = .slice none 0 0 := by simpa using hv
    exact ⟨[], LBytes.nil _⟩
  · obtain rfl : v = .slice (some a) len cap := by simpa using hv
    simp only [if_true] at hmm
    obtain ⟨B, hB⟩ := Deep.choose_lt (α := List UInt8) (p := fun i b => Bytes (Ex.whole W) (V i) b) (fun i (hi : i < len) => bytes_row ht1 he hc (hcell i (by omega)).2)
    have key : ∀ n, n ≤ len → LB (Ex.whole W) ((List.range n).map V) ((List.range n).map B) := by
      intro n
      induction n with
      | zero => intro _; exact LB.nil _
      | succ n ih =>
        intro hn
        rw [List.range_succ, List.map_append, List.map_append]
        exact (ih (by omega)).snoc (hB n (by omega))
    refine ⟨(List.range len).map B, (List.range len).map V, ⟨some a, cap, by simp, by simp, by simpa using hl, hm, fun _ => ⟨a, rfl, fun j u hj => ?_⟩⟩, key len (Nat.le_refl _)⟩
    rw [gcell_whole]
    have hj' : j < len := by
      have := (List.getElem?_eq_some_iff.1 hj).1
      simpa using this
    rw [(hcell j (by omega)).1]
    simp [hj'] at hj
    rw [hj]

theorem trodAll_below {W W' : World} (hl : laidOutB P = true) (hb : Below W.heap.size W W') : ∀ (ts : List TypeId) {vs : List Value} {ds : List (DataW H)} {ps : List MemPlace}, (ts.all fun t => P.readableRec t && decide (t < P.types.size)) = true →
    DataW.TrodAll enc P W 0 (fun _ => true) true ts vs ds ps → (∀ x ∈ ps, x.block < W.heap.size) → DataW.TrodAll enc P W' 0 (fun b => decide (b < W.heap.size)) true ts vs ds ps
  | [], vs, ds, ps, _, h, _ => by
    obtain ⟨rfl, rfl, rfl⟩ := trodAll_nil h
    exact trodAll_mk0
  | t :: ts, vs, ds, ps, ha, h, hlt => by
    obtain ⟨v, vs', d, ds', p, q, rfl, rfl, rfl, h1, h2⟩ := trodAll_cons h
    simp only [List.all_cons, Bool.and_eq_true, decide_eq_true_eq] at ha
    exact trodAll_cons_mk (Below.trod hl ha.1.1 ha.1.2 h1 hb (fun x hx => hlt x (List.mem_append_left _ hx))) (trodAll_below hl hb ts (by simpa using ha.2) h2 (fun x hx => hlt x (List.mem_append_right _ hx)))

/-- THE ROW's STEP: a law that returns true and leaves what lay there as it lay. -/
theorem post_law {f : Func} {s : ChangeSpec} {W W' : World} {args : Array Value} {ds gs : List (DataW H)} {before : List MemPlace} {tb : TypeId} (hl : laidOutB P = true) (hp : (f.params.toList.all fun t => P.readableRec t && decide (t < P.types.size)) = true)
    (hr : f.resultTypes = #[tb]) (ht : P.underlying tb = some .bool) (hv : s.vars = []) (hW : DataW.Whole enc P f.params.toList s.vars false W args.toList ds gs before)
    (hs : s.fn H (ds ++ []) = { results := [.lit (.bool true)], args := ds }) (hb : Below W.heap.size W W') : s.post enc P f false true false false W args (.bool true) W' := by
  have hW' := hW
  obtain ⟨p, q, hA, hV, rfl, _, _⟩ := hW
  rw [hv] at hV
  obtain ⟨rfl, rfl⟩ := trodVars_none hV
  refine ⟨ds, [], _, [], p, [], hW', ?_, ?_, ?_, hb.frame _, fun h => by cases h⟩
  · rw [hs, hr]
    exact trodAll_mk1 (shut_bool ht _)
  · rw [hs]
    exact trodAll_below hl hb _ hp hA (fun x hx => by simpa using hW'.lt x (by simp [hx]))
  · rw [hs, hv]
    exact rfl
end

section
variable {H : Type} {enc : TypeId × Value → H} {P : Program}
theorem int_cell {W : World} {v : Value} {t : TypeId} {k : IntKind} {fuel : Nat} {x : DataW H × List MemPlace} (ht : P.underlying t = some (.int k)) (h : DataW.trod enc P W 0 (fun _ => true) true fuel t [v] = some x) :
    ∃ z, v = .int k z ∧ (Lit.int k z).wf = true := by
  cases fuel with
  | zero => simp [DataW.trod] at h
  | succ n =>
    rw [DataW.trod_step] at h
    unfold DataW.trodStep at h
    simp only [ht] at h
    cases v <;> simp at h
    rename_i k' z
    obtain ⟨⟨rfl, hw⟩, _⟩ := h
    exact ⟨z, rfl, hw⟩
theorem bool_cell {W : World} {v : Value} {t : TypeId} {fuel : Nat} {x : DataW H × List MemPlace} (ht : P.underlying t = some .bool) (h : DataW.trod enc P W 0 (fun _ => true) true fuel t [v] = some x) :
    ∃ z, v = .bool z := by
  cases fuel with
  | zero => simp [DataW.trod] at h
  | succ n =>
    rw [DataW.trod_step] at h
    unfold DataW.trodStep at h
    simp only [ht] at h
    cases v <;> simp at h
    exact ⟨_, rfl⟩
end

/-- An array of two bytes. -/
theorem pair_row {H : Type} {enc : TypeId × Value → H} {P : Program} {W : World} {t e : TypeId} {r : Reach} {b0 : Nat} {v : Value} {fuel : Nat} {x : DataW H × List MemPlace} (ht : P.underlying t = some (.array 2 e)) (he : P.underlying e = some (.int .u8)) (hc : P.cellsOf t = 2) (hc1 : P.cellsOf e = 1)
    (hv : Value.okWide P W r b0 t v) (h : DataW.trod enc P W 0 (fun _ => true) true fuel t v.cells.toList = some x) :
    ∃ za zb : Int, v = .agg #[.int .u8 za, .int .u8 zb] ∧ (Lit.int .u8 za).wf = true ∧ (Lit.int .u8 zb).wf = true := by
  obtain ⟨xs, m, _, _, hl, hn, hx⟩ := DataW.trod_array ht h
  have hagg : ∃ cs, v = .agg cs := by
    simp only [Value.okWide, ht] at hv
    cases v <;> simp_all
  obtain ⟨cs, rfl⟩ := hagg
  have hl2 : cs.toList.length = 2 := hl.trans hc
  obtain ⟨cl⟩ := cs
  match cl, hl2 with
  | [c0, c1], _ =>
    have h0 := hx 0 (by omega)
    have h1 := hx 1 (by omega)
    rw [hc1] at h0 h1
    simp only [Value.cells] at h0 h1
    have e0 : ∃ y, DataW.trod enc P W 0 (fun _ => true) true m e [c0] = some y := ⟨xs[0]'(by omega), by rw [← List.getElem?_eq_getElem]; simpa using h0⟩
    have e1 : ∃ y, DataW.trod enc P W 0 (fun _ => true) true m e [c1] = some y := ⟨xs[1]'(by omega), by rw [← List.getElem?_eq_getElem]; simpa using h1⟩
    obtain ⟨y0, e0⟩ := e0
    obtain ⟨y1, e1⟩ := e1
    obtain ⟨za, rfl, wa⟩ := int_cell he e0
    obtain ⟨zb, rfl, wb⟩ := int_cell he e1
    exact ⟨za, zb, rfl, wa, wb⟩
end Go.Ex
