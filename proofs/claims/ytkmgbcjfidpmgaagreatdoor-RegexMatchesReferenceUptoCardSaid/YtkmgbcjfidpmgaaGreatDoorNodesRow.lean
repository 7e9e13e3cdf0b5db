/- Package regex: a list of nodes that came in as an argument. -/
import Derived.Test.YtkmgbcjfidpmgaaGreatDoorExRowU
import Derived.Test.YtkmgbcjfidpmgaaGreatDoorModel
import Derived.Deep.Slices
namespace Go.Proofs.YtkmgbcjfidpmgaaGreatDoor
open Go Go.Ex Go.RowKit Go.ChangeShapes Go.WideShapes Go.ChangeAt

section
variable {H : Type} {enc : TypeId × Value → H} {P : Program}
/-- What is known of the type of nodes. -/
structure NodeRowTy (P : Program) (e : TypeId) where
  f : Fin 6 → Field
  e64 : TypeId
  he : P.underlying e = some (.struct #[f 0, f 1, f 2, f 3, f 4, f 5])
  ce : P.cellsOf e = 9
  off : (f 0).offset = 0 ∧ (f 1).offset = 1 ∧ (f 2).offset = 5 ∧ (f 3).offset = 6 ∧ (f 4).offset = 7 ∧ (f 5).offset = 8
  cel : P.cellsOf (f 0).type = 1 ∧ P.cellsOf (f 1).type = 4 ∧ P.cellsOf (f 2).type = 1 ∧ P.cellsOf (f 3).type = 1 ∧ P.cellsOf (f 4).type = 1 ∧ P.cellsOf (f 5).type = 1
  ints : P.underlying (f 0).type = some (.int .i64) ∧ P.underlying (f 2).type = some (.int .i64) ∧ P.underlying (f 3).type = some (.int .i64) ∧ P.underlying (f 4).type = some (.int .i64) ∧ P.underlying (f 5).type = some (.int .i64)
  arr : P.underlying (f 1).type = some (.array 4 e64)
  u64 : P.underlying e64 = some (.int .u64)
  c64 : P.cellsOf e64 = 1
theorem word_of {z : Int} (h : (Lit.int .u64 z).wf = true) : ∃ a : Nat, Value.int .u64 z = u64V a ∧ a < W64 := by
  have hx : 0 ≤ z ∧ z ≤ 18446744073709551615 := by simpa [Lit.wf, IntKind.min, IntKind.max, IntKind.signed, IntKind.bits] using h
  refine ⟨z.toNat, ?_, by unfold W64; omega⟩
  show Value.int .u64 z = .int .u64 ((z.toNat : Nat) : Int)
  congr 1; omega
theorem node_of {e : TypeId} (T : NodeRowTy P e) {W : World} {n : Nat} {cs : List Value} {y : DataW H × List MemPlace} (hl : cs.length = 9) (h : DataW.trod enc P W 0 (fun _ => true) true n e cs = some y) : ∃ nd : NodeV, cs = nodeC nd ∧ ClsOk nd.c := by
  obtain ⟨f, e64, he, ce, ⟨o0, o1, o2, o3, o4, o5⟩, ⟨c0, c1, c2, c3, c4, c5⟩, ⟨i0, i2, i3, i4, i5⟩, harr, hu64, hc64⟩ := T
  obtain ⟨xs, k, _, _, _, hxl, hf⟩ := DataW.trod_struct he h
  match xs, hxl, cs, hl with
  | [y0, y1, y2, y3, y4, y5], _, [v0, v1, v2, v3, v4, v5, v6, v7, v8], _ =>
    have g0 := hf 0 (f 0) rfl
    have g1 := hf 1 (f 1) rfl
    have g2 := hf 2 (f 2) rfl
    have g3 := hf 3 (f 3) rfl
    have g4 := hf 4 (f 4) rfl
    have g5 := hf 5 (f 5) rfl
    rw [o0, c0] at g0; rw [o1, c1] at g1; rw [o2, c2] at g2; rw [o3, c3] at g3; rw [o4, c4] at g4; rw [o5, c5] at g5
    obtain ⟨z0, rfl, _⟩ := int_cell i0 (x := y0) g0
    obtain ⟨z5, rfl, _⟩ := int_cell i2 (x := y2) g2
    obtain ⟨z6, rfl, _⟩ := int_cell i3 (x := y3) g3
    obtain ⟨z7, rfl, _⟩ := int_cell i4 (x := y4) g4
    obtain ⟨z8, rfl, _⟩ := int_cell i5 (x := y5) g5
    obtain ⟨ys, m, _, _, _, hyl, hel⟩ := DataW.trod_array harr (x := y1) g1
    match ys, hyl with
    | [a0, a1, a2, a3], _ =>
      have b0 := hel 0 (by decide)
      have b1 := hel 1 (by decide)
      have b2 := hel 2 (by decide)
      have b3 := hel 3 (by decide)
      rw [hc64] at b0 b1 b2 b3
      obtain ⟨w1, rfl, k1⟩ := int_cell hu64 (x := a0) b0
      obtain ⟨w2, rfl, k2⟩ := int_cell hu64 (x := a1) b1
      obtain ⟨w3, rfl, k3⟩ := int_cell hu64 (x := a2) b2
      obtain ⟨w4, rfl, k4⟩ := int_cell hu64 (x := a3) b3
      obtain ⟨d1, e1, l1⟩ := word_of k1
      obtain ⟨d2, e2, l2⟩ := word_of k2
      obtain ⟨d3, e3, l3⟩ := word_of k3
      obtain ⟨d4, e4, l4⟩ := word_of k4
      rw [e1, e2, e3, e4]
      refine ⟨⟨z0, [d1, d2, d3, d4], z5, z6, z7, z8⟩, rfl, rfl, fun x hx => ?_⟩
      simp only [List.mem_cons, List.not_mem_nil, or_false] at hx
      rcases hx with rfl | rfl | rfl | rfl <;> assumption
theorem nodeC_nine {n : NodeV} (h : ClsOk n.c) : (nodeC n).length = 9 := by simp [nodeC, h.1]
instance : Inhabited NodeV := ⟨⟨0, [], 0, 0, 0, 0⟩⟩
theorem nodes_row {e : TypeId} (T : NodeRowTy P e) {W : World} {v : Value} {t : TypeId} {fuel : Nat} {x : DataW H × List MemPlace} (ht : P.underlying t = some (.slice e))
    (h : DataW.trod enc P W 0 (fun _ => true) true fuel t [v] = some x) : ∃ l, Rx (Ex.whole W) v l ∧ Places x.1 l.length := by
  rcases Deep.open_slice ht h with ⟨hv, hx⟩ | ⟨a, len, cap, m, n, D, Pl, hv, _, hl, hm, hmm, hx, hall⟩
  · obtain rfl : v = .slice none 0 0 := by simpa using hv
    exact ⟨[], LstR.nil, .inl rfl⟩
  · obtain rfl : v = .slice (some a) len cap := by simpa using hv
    simp only [if_true] at hmm
    obtain ⟨F, hF⟩ := Deep.choose_lt (α := NodeV) (p := fun i nd => ClsOk nd.c ∧ ∀ r, r < 9 → W.cell? (a.add (i * 9 + r)) = (nodeC nd)[r]?) (n := len) (fun i hi => by
      obtain ⟨cs, h1, h2⟩ := hall i (by omega)
      rw [T.ce] at h1
      obtain ⟨_, hlen, hcell⟩ := World.cells?_some h1
      obtain ⟨nd, rfl, hc⟩ := node_of T hlen h2
      refine ⟨nd, hc, fun r hr => ?_⟩
      rw [← hcell r hr, addr_add_add])
    have hlF : ((List.range len).map F).length = len := by simp
    refine ⟨(List.range len).map F, ⟨((List.range len).map F).map nodeC, ⟨some a, cap, by rw [hlF], ?_, by rw [hlF]; exact hl, hm, fun _ => ⟨a, rfl, fun j u hj => ?_⟩⟩, ?_, ?_⟩, ?_⟩
    · have key : ∀ ls : List NodeV, (∀ n ∈ ls, ClsOk n.c) → (ls.map nodeC).flatten.length = ls.length * 9 := by
        intro ls
        induction ls with
        | nil => intro _; rfl
        | cons n ls ih =>
          intro hc
          rw [List.map_cons, List.flatten_cons, List.length_append, nodeC_nine (hc n (by simp)), ih fun m hm => hc m (by simp [hm]), List.length_cons]; omega
      rw [key]
      intro n hn
      obtain ⟨i, hi, rfl⟩ := List.mem_map.1 hn
      exact (hF i (List.mem_range.1 hi)).1
    · rw [gcell_whole]
      have hcs : ∀ c ∈ ((List.range len).map F).map nodeC, c.length = 9 := by
        intro c hc
        obtain ⟨n, hn, rfl⟩ := List.mem_map.1 hc
        obtain ⟨i, hi, rfl⟩ := List.mem_map.1 hn
        exact nodeC_nine (hF i (List.mem_range.1 hi)).1
      have hjl : j < len * 9 := by
        have h1 := (List.getElem?_eq_some_iff.1 hj).1
        have h2 : (((List.range len).map F).map nodeC).flatten.length = len * 9 := by
          have key : ∀ ls : List (List Value), (∀ c ∈ ls, c.length = 9) → ls.flatten.length = ls.length * 9 := by
            intro ls
            induction ls with
            | nil => intro _; rfl
            | cons c ls ih => intro hc; rw [List.flatten_cons, List.length_append, hc c (by simp), ih fun m hm => hc m (by simp [hm]), List.length_cons]; omega
          rw [key _ hcs]; simp
        omega
      have hi : j / 9 < len := by omega
      have hget : (((List.range len).map F).map nodeC)[j / 9]? = some (nodeC (F (j / 9))) := by simp [hi]
      have hfl := flatten_at _ (j / 9) _ hcs hget
      have h2 := (hF (j / 9) hi).2 (j % 9) (by omega)
      rw [show j / 9 * 9 + j % 9 = j by omega] at h2
      rw [h2, ← hfl, List.getElem?_take_of_lt (by omega), List.getElem?_drop, show j / 9 * 9 + j % 9 = j by omega]
      exact hj
    · have key : ∀ ls : List NodeV, (∀ n ∈ ls, ClsOk n.c) → All2 (NodeR (Ex.whole W)) (ls.map nodeC) ls := by
        intro ls
        induction ls with
        | nil => intro _; trivial
        | cons n ls ih => intro hc; exact ⟨⟨rfl, hc n (by simp)⟩, ih fun m hm => hc m (by simp [hm])⟩
      exact key _ fun n hn => by
        obtain ⟨i, hi, rfl⟩ := List.mem_map.1 hn
        exact (hF i (List.mem_range.1 hi)).1
    · intro c hc
      obtain ⟨n, hn, rfl⟩ := List.mem_map.1 hc
      obtain ⟨i, hi, rfl⟩ := List.mem_map.1 hn
      exact nodeC_nine (hF i (List.mem_range.1 hi)).1
    · refine .inr ⟨_, _, by rw [hx], by simp⟩
end
end Go.Proofs.YtkmgbcjfidpmgaaGreatDoor
