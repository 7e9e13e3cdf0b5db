/- The operations that change the memory. -/
import Derived.Test.YtcnljflihhggiaaGreatDoorExOps
import Derived.Laws.MakeOwn
namespace Go.Ex
open Go Go.RowKit

theorem S_val {x : Cx} {o : Oper} {Q : Exit → Env → World → Prop} {K : Value → World → Prop} {E : Env} {w : World} (hd : notDefer o.op = true)
    (h : ∀ a, Ag x.N E a → ∃ v w', (execOp a.eval o).run x.P w = .ok (.value v) w' ∧ K v w') : S x o Q K E w := by
  intro a ha next hn
  obtain ⟨v, w', hr, hK⟩ := h a ha
  refine ⟨fun _ _ => trivial, ?_⟩
  rw [Oper.semAt_eq _ _ _ (fun c hc => by rw [hc] at hd; cases hd), hr]
  exact hn _ _ hK
theorem S_skip {x : Cx} {o : Oper} {Q : Exit → Env → World → Prop} {K : Value → World → Prop} {E : Env} {w : World} (hd : notDefer o.op = true)
    (h : ∀ a, Ag x.N E a → ∃ w', (execOp a.eval o).run x.P w = .ok .skip w' ∧ K undef w') : S x o Q K E w := by
  intro a ha next hn
  obtain ⟨w', hr, hK⟩ := h a ha
  refine ⟨fun _ _ => trivial, ?_⟩
  rw [Oper.semAt_eq _ _ _ (fun c hc => by rw [hc] at hd; cases hd), hr]
  exact hn _ _ hK

section
variable {x : Cx} {Q : Exit → Env → World → Prop} {E : Env} {K : Value → World → Prop} {w : World} {d : Option Tmp} {ty : TypeId} {pos : String} {aft : Array Edge} {g : Option (Nat × Bool)}
  {c : Ctx} {G : Ghost} {H : List Res}

theorem S_alloc {e : TypeId} {z : Value} {cs : List Value} (hs : St c G H w) (hz : ∀ w, (zeroValue e).run x.P w = .ok z w) (hc : z.cells.toList = cs)
    (k : ∀ b w', St c G (.blk b e cs :: H) w' → K (.pointer (some ⟨b, 0, none⟩)) w') : S x ⟨d, .alloc e, ty, pos, aft, g⟩ Q K E w := by
  subst hc
  refine S_val rfl fun a _ => ⟨.pointer (some ⟨w.heap.size, 0, none⟩), w.alloc (.cells z.cells e), ?_, k _ _ (hs.alloc _ ?_ (fun k hk => hk))⟩
  · simp [execOp, Instr.alloc, hz w, newVar, newRow]
  · show (w.alloc _).heap[w.heap.size]? = _
    rw [heap_alloc_new]
theorem S_box {e : TypeId} {o : Operand} {v : Value} {cs : List Value} (hs : St c G H w) (hv : ev E o = some v) (hc : v.cells.toList = cs)
    (k : ∀ b w', St c G (.blk b e cs :: H) w' → K (.pointer (some ⟨b, 0, none⟩)) w') : S x ⟨d, .box e o, ty, pos, aft, g⟩ Q K E w := by
  subst hc
  refine S_val rfl fun a ha => ⟨.pointer (some ⟨w.heap.size, 0, none⟩), w.alloc (.cells v.cells e), ?_, k _ _ (hs.alloc _ ?_ (fun k hk => hk))⟩
  · simp [execOp, Instr.box, ha.ev hv, newVar, newRow]
  · show (w.alloc _).heap[w.heap.size]? = _
    rw [heap_alloc_new]

/-! #### stores -/
theorem blk_set {cs : List Value} {b e j : Nat} {v : Value} (h : w.heap[b]? = some (.cells cs.toArray e (0, 0))) : (w.setCell ⟨b, j, none⟩ v).heap[b]? = some (.cells (cs.set j v).toArray e (0, 0)) := by
  simp [World.setCell, Array.getElem?_modify, h]

/-- One cell of the first resource. -/
theorem S_st {o p : Operand} {t b j e : Nat} {v : Value} {cs cs' : List Value} (hs : St c G (.blk b e cs :: H) w) (hS : ∀ w, (sizeOf t).run x.P w = .ok 1 w) (h1 : ev E o = some (.pointer (some ⟨b, j, none⟩))) (h2 : ev E p = some v)
    (hone : v.oneCell' = true) (hj : j < cs.length) (hc : cs.set j v = cs') (k : ∀ w', St c G (.blk b e cs' :: H) w' → K undef w') : S x ⟨d, .store t o p, ty, pos, aft, g⟩ Q K E w := by
  subst hc
  have hb : w.heap[b]? = some (.cells cs.toArray e (0, 0)) := hs.hold (.blk b e cs) (by simp)
  have hcell : w.cell? ⟨b, j, none⟩ = some cs[j] := by simp [World.cell?, hb, hj]
  have hfz : w.frozen? ⟨b, j, none⟩ = false := by simp [World.frozen?, hb]
  have hcells : v.cells = #[v] := by cases v <;> simp [Value.oneCell'] at hone <;> rfl
  refine S_skip rfl fun a ha => ⟨w.setCell ⟨b, j, none⟩ v, ?_, k _ (hs.write rfl rfl rfl (by simp [World.setCell]) (fun k hk hne => Below.heap_setCell w _ v k hne) (blk_set hb) (fun k hk => .inl hk))⟩
  have hadd : (⟨b, j, none⟩ : Addr).add 0 = ⟨b, j, none⟩ := rfl
  simp [execOp, ha.ev h1, ha.ev h2, Instr.storeAt, Instr.sureAddr, storeVar, hcells, hS w, storeCells, hadd, run_store, hone, hcell, hfz]

theorem run_storeCells_blk {P : Program} {b e j : Nat} : ∀ {vs cs : List Value} {i : Nat} {w : World}, w.heap[b]? = some (.cells cs.toArray e (0, 0)) → (∀ v ∈ vs, v.oneCell' = true) → j + i + vs.length ≤ cs.length →
    ∃ w', (storeCells ⟨b, j, none⟩ vs i).run P w = .ok () w' ∧ w'.os = w.os ∧ w'.tape = w.tape ∧ w'.output = w.output ∧ w'.heap.size = w.heap.size ∧ (∀ k, k ≠ b → w'.heap[k]? = w.heap[k]?) ∧
      w'.heap[b]? = some (.cells (cs.take (j + i) ++ vs ++ cs.drop (j + i + vs.length)).toArray e (0, 0))
  | [], cs, i, w, hb, _, hl => ⟨w, by simp [storeCells], rfl, rfl, rfl, rfl, fun _ _ => rfl, by simp [hb]⟩
  | v :: vs, cs, i, w, hb, h1, hl => by
    have hadd : (⟨b, j, none⟩ : Addr).add i = ⟨b, j + i, none⟩ := by
      unfold Addr.add; split
      · rename_i h0; simp [h0]
      · rfl
    simp only [List.length_cons] at hl
    have hji : j + i < cs.length := by omega
    have hcell : w.cell? ⟨b, j + i, none⟩ = some cs[j + i] := by simp [World.cell?, hb, hji]
    have hfz : w.frozen? ⟨b, j + i, none⟩ = false := by simp [World.frozen?, hb]
    have hone := h1 v List.mem_cons_self
    obtain ⟨w', hr, e1, e2, e3, e4, e5, e6⟩ := run_storeCells_blk (P := P) (b := b) (e := e) (j := j) (vs := vs) (cs := cs.set (j + i) v) (i := i + 1) (blk_set hb) (fun u hu => h1 u (List.mem_cons_of_mem _ hu)) (by simp; omega)
    refine ⟨w', ?_, e1, e2, e3, by rw [e4]; simp [World.setCell], fun k hk => by rw [e5 k hk]; exact Below.heap_setCell w _ v k hk, ?_⟩
    · simp only [storeCells, Sem.run_bind, hadd]
      rw [run_store _ _ _ _ _ hone, hcell]
      simp [hfz, hr]
    · rw [e6]
      congr 3
      rw [show j + (i + 1) = (j + i) + 1 by omega, List.take_succ_eq_append_getElem (by simp; omega)]
      simp only [List.getElem_set_self, List.take_set, List.append_assoc, List.singleton_append, List.length_cons]
      rw [List.set_eq_of_length_le (by rw [List.length_take]; exact Nat.min_le_left _ _), List.drop_set_of_lt (by omega)]
      congr 3
      omega
/-- A whole struct into the first resource. -/
theorem S_stA {o p : Operand} {t b j e n : Nat} {vs cs cs' : List Value} (hs : St c G (.blk b e cs :: H) w) (hS : ∀ w, (sizeOf t).run x.P w = .ok n w) (h1 : ev E o = some (.pointer (some ⟨b, j, none⟩))) (h2 : ev E p = some (.agg vs.toArray))
    (hn : vs.length = n) (hone : vs.all (·.oneCell') = true) (hj : j + n ≤ cs.length) (hc : cs.take j ++ vs ++ cs.drop (j + n) = cs') (k : ∀ w', St c G (.blk b e cs' :: H) w' → K undef w') : S x ⟨d, .store t o p, ty, pos, aft, g⟩ Q K E w := by
  subst hc hn
  have hb : w.heap[b]? = some (.cells cs.toArray e (0, 0)) := hs.hold (.blk b e cs) (by simp)
  obtain ⟨w', hr, e1, e2, e3, e4, e5, e6⟩ := run_storeCells_blk (P := x.P) (b := b) (e := e) (j := j) (i := 0) (vs := vs) hb (by simpa using hone) (by simpa using hj)
  refine S_skip rfl fun a ha => ⟨w', ?_, k _ (hs.write e1 e2 e3 (by omega) (fun k hk hne => e5 k hne) (by simpa [Res.holds] using e6) (fun k hk => .inl hk))⟩
  simp [execOp, ha.ev h1, ha.ev h2, Instr.storeAt, Instr.sureAddr, storeVar, Value.cells, hS w, hr]

/-! #### building -/
theorem row_of_new {e k n : Nat} {cs : List Value} (hl : cs.length = n * k) (hm : n ≤ maxLen) : Res.holds (w.alloc (.cells cs.toArray e)) (.row e k (.slice (some ⟨w.heap.size, 0, none⟩) n n) n cs) := by
  refine ⟨hl, .inr ⟨w.heap.size, n, cs.toArray, rfl, Nat.zero_le _, heap_alloc_new w _, Nat.le_refl _, hm, by simpa using hl, ?_⟩⟩
  simp [← hl]

def evs (E : Env) : List (Nat × Operand) → Option (List (Nat × Value))
  | [] => some []
  | (i, o) :: r => match ev E o, evs E r with
    | some v, some vs => some ((i, v) :: vs)
    | _, _ => none
theorem evs_spec {N : Nat} {a : Act} (ha : Ag N E a) : ∀ {ps : List (Nat × Operand)} {vs : List (Nat × Value)}, evs E ps = some vs → ps.map (fun p => (p.1, a.eval p.2)) = vs
  | [], vs, h => by simp [evs] at h; simp [h]
  | (i, o) :: r, vs, h => by
    simp only [evs] at h
    cases h1 : ev E o with
    | none => rw [h1] at h; cases h
    | some v =>
      cases h2 : evs E r with
      | none => rw [h1, h2] at h; cases h
      | some us =>
        rw [h1, h2] at h
        injection h with h
        subst h
        simp [ha.ev h1, evs_spec ha h2]

/-- Cells from off on, set to vs. -/
def putL : List Value → Nat → List Value → List Value
  | cs, _, [] => cs
  | cs, off, v :: vs => putL (cs.set off v) (off + 1) vs
/-- The parts, each at its place (offset, size). -/
def fillL (place : Nat → Option (Nat × Nat)) : List Value → List (Nat × Value) → Option (List Value)
  | cs, [] => some cs
  | cs, (i, v) :: r =>
    match place i with
    | none => none
    | some (off, size) => bif Nat.beq v.cells.toList.length size && Nat.ble (off + v.cells.toList.length) cs.length then fillL place (putL cs off v.cells.toList) r else none
theorem foldl_set (off : Nat) : ∀ (vs : List Value) (i : Nat) (cs : Array Value), (vs.zipIdx i).foldl (fun cs (c, j) => cs.setIfInBounds (off + j) c) cs = (putL cs.toList (off + i) vs).toArray
  | [], _, cs => by simp [putL]
  | v :: vs, i, cs => by
    simp only [List.zipIdx_cons, List.foldl_cons, putL]
    rw [foldl_set off vs (i + 1)]
    simp [Nat.add_assoc]
theorem fill_of_L {place : Nat → Option (Nat × Nat)} : ∀ {ps : List (Nat × Value)} {cs cs' : List Value}, fillL place cs ps = some cs' → Instr.fill place cs.toArray ps = some cs'.toArray
  | [], cs, cs', h => by simp [fillL] at h; simp [Instr.fill, h]
  | (i, v) :: r, cs, cs', h => by
    simp only [fillL] at h
    simp only [Instr.fill]
    cases hp : place i with
    | none => rw [hp] at h; cases h
    | some os =>
      obtain ⟨off, size⟩ := os
      rw [hp] at h
      simp only at h ⊢
      cases hb : (Nat.beq v.cells.toList.length size && Nat.ble (off + v.cells.toList.length) cs.length) with
      | false => rw [hb] at h; cases h
      | true =>
        rw [hb] at h
        simp only [Bool.and_eq_true, Nat.beq_eq, Nat.ble_eq] at hb
        obtain ⟨h1, h2⟩ := hb
        simp only [Array.length_toList] at h1 h2
        have hc : (v.cells.size != size || decide (off + v.cells.size > cs.toArray.size)) = false := by simp [h1]; omega
        have hf : (Array.foldl (fun cs (x : Value × Nat) => cs.setIfInBounds (off + x.2) x.1) cs.toArray v.cells.zipIdx) = (putL cs off v.cells.toList).toArray := by
          rw [← Array.foldl_toList, Array.toList_zipIdx]
          exact foldl_set off _ 0 _
        have := fill_of_L (place := place) (ps := r) (by simpa using h)
        simp_all

/-- The places of the fields of a struct. -/
def places (P : Program) (t : TypeId) : Option (List (Nat × Nat)) :=
  match P.underlying t with
  | some (.struct fs) => fs.toList.mapM fun f => (P.info? f.type).map fun i => (f.offset, i.size)
  | _ => none
theorem mapM_places {P : Program} {w : World} : ∀ {fs : List Field} {l : List (Nat × Nat)}, fs.mapM (fun f => (P.info? f.type).map fun i => (f.offset, i.size)) = some l →
    (fs.mapM fun f => (do pure (f.offset, ← sizeOf f.type) : Sem (Nat × Nat))).run P w = .ok l w
  | [], l, h => by simp at h; subst h; simp
  | f :: fs, l, h => by
    simp only [List.mapM_cons] at h
    cases hi : P.info? f.type with
    | none => rw [hi] at h; simp at h
    | some i =>
      rw [hi] at h
      cases hr : fs.mapM (fun f => (P.info? f.type).map fun i => (f.offset, i.size)) with
      | none => rw [hr] at h; simp at h
      | some l' =>
        rw [hr] at h
        simp at h
        subst h
        have hsz : (sizeOf f.type).run P w = .ok i.size w := by simp [sizeOf, typeInfo, hi]
        simp only [List.mapM_cons, Sem.run_bind, Result.andThen_ok, Sem.run_pure, hsz, mapM_places hr]

theorem Y_build {W : World → Prop} {K : Value → Prop} {t : TypeId} {ps : List (Nat × Operand)} {z : Value} {zs cs : List Value} {vs : List (Nat × Value)} {pl : List (Nat × Nat)} (hz : ∀ w, (zeroValue t).run x.P w = .ok z w) (hzs : z.cells.toList = zs)
    (hp : places x.P t = some pl) (hv : evs E ps = some vs) (hc : fillL (pl[·]?) zs vs = some cs) (k : K (.agg cs.toArray)) : Y x W ⟨d, .build t ps.toArray, ty, pos, aft, g⟩ E K := by
  subst hzs
  refine Y_of (v := .agg cs.toArray) (fun a ha w _ => ?_) k
  have hv' := evs_spec ha hv
  unfold places at hp
  cases hu : x.P.underlying t with
  | none => rw [hu] at hp; cases hp
  | some td =>
    rw [hu] at hp
    cases td with
    | struct fs =>
      simp only at hp
      have hm : (fs.mapM fun f => (do pure (f.offset, ← sizeOf f.type) : Sem (Nat × Nat))).run x.P w = .ok pl.toArray w := by
        rw [Array.mapM_eq_mapM_toList, Sem.run_map, mapM_places hp]; rfl
      have hf := fill_of_L hc
      simp only [Array.toArray_toList] at hf
      simp only [execOp, Instr.build, Sem.run_bind, hz w, Result.andThen_ok, run_underlying hu w, hm]
      simp only [List.map_toArray, hv']
      have : (fun i : Nat => pl.toArray[i]?) = (fun i : Nat => pl[i]?) := by funext i; simp
      rw [this, hf]
      simp
    | _ => simp at hp

theorem range_rep (z : Array Value) (k : Nat) (hk : z.size = k) : ∀ n, (List.range (n * k)).map (fun j => z[j % k]!) = (List.replicate n z.toList).flatten
  | 0 => by simp
  | n + 1 => by
    rw [Nat.add_mul, Nat.one_mul, List.range_add, List.map_append, range_rep z k hk n, List.replicate_succ', List.flatten_append]
    congr 1
    simp only [List.flatten_cons, List.flatten_nil, List.append_nil, List.map_map]
    apply List.ext_getElem
    · simp [hk]
    · intro j h1 h2
      have hj : j < k := by simpa using h1
      simp [Nat.mod_eq_of_lt hj, hk, hj]

/-- A slice literal of n elements of k cells; the zero element's cells z. -/
theorem S_lit {t e k n : Nat} {ps : List (Nat × Operand)} {z : Value} {zs cs : List Value} {vs : List (Nat × Value)} (hs : St c G H w) (hu : x.P.underlying t = some (.slice e)) (hS : ∀ w, (sizeOf e).run x.P w = .ok k w)
    (hz : ∀ w, (zeroValue e).run x.P w = .ok z w) (hk : z.cells.size = k) (hzs : (List.replicate n z.cells.toList).flatten = zs) (hn : n * k ≤ 16777216) (hn' : n ≤ 16777216) (hv : evs E ps = some vs) (hc : fillL (fun i => some (i * k, k)) zs vs = some cs) (hl : cs.length = n * k)
    (kk : ∀ v w', St c G (.row e k v n cs :: H) w' → (∃ b, v = .slice (some ⟨b, 0, none⟩) n n) → K v w') : S x ⟨d, .buildSlice t n ps.toArray, ty, pos, aft, g⟩ Q K E w := by
  refine S_val rfl fun a ha => ⟨.slice (some ⟨w.heap.size, 0, none⟩) n n, w.alloc (.cells cs.toArray e), ?_, kk _ _ (hs.alloc _ (row_of_new hl (by unfold maxLen; omega)) (fun j hj => by simpa [Res.foot, Value.ownBlock] using hj.symm)) ⟨_, rfl⟩⟩
  have hv' := evs_spec ha hv
  have hf := fill_of_L hc
  have hr : ((Array.range (n * k)).map fun j => z.cells[j % k]!) = zs.toArray := by
    rw [← hzs, ← range_rep z.cells k hk n]
    apply Array.ext'
    simp
  simp only [execOp, Instr.buildSlice, Sem.run_bind, run_underlying hu w, Result.andThen_ok, hS w]
  rw [if_neg (by omega)]
  simp only [List.map_toArray, hv']
  by_cases h0 : n * k = 0
  · have hz0 : zs = [] := by
      have : zs.toArray = #[] := by rw [← hr, h0]; simp
      simpa using this
    subst hz0
    simp only [h0, if_true, Sem.run_bind, Sem.run_pure, Result.andThen_ok]
    have : (Array.map (fun y => (#[] : Array Value)[y % (#[] : Array Value).size]!) (Array.range 0)) = #[] := by simp
    rw [this, hf]
    simp [newRow]
  · simp only [h0, if_false, Sem.run_bind, hz w, Result.andThen_ok, Sem.run_pure]
    rw [hk, hr, hf]
    simp [newRow]

/-! #### append, call, make, conversions -/
/-- The element type's row of the table. -/
def TI (P : Program) (e : TypeId) (z : Value) (k bytes : Nat) : Prop := ∃ i, P.info? e = some i ∧ i.zero = some z ∧ i.size = k ∧ i.bytes = bytes
theorem TI.of {P : Program} {e : TypeId} {z : Value} {k bytes : Nat} (h : (P.info? e).map (fun i => (i.zero, i.size, i.bytes)) = some (some z, k, bytes)) : TI P e z k bytes := by
  cases hi : P.info? e with
  | none => rw [hi] at h; cases h
  | some i =>
    rw [hi] at h
    simp at h
    exact ⟨i, hi, h.1, h.2.1, h.2.2⟩

theorem run_append_any {P : Program} {t ty e : TypeId} {z : Value} {k bytes : Nat} (ht : P.underlying t = some (.slice e)) (hi : TI P e z k bytes) (hzk : z.cells.size = k) (hk : 0 < k)
    {v u : Value} {n m : Nat} {xs ys : List Value} (hown : w.ownsRow 0 e k v n xs) (hs : St c G H w) (hu : Sl G u k m ys) (h1 : ∀ y ∈ ys, y.oneCell' = true) (hb : (n + m) * bytes ≤ 140737488355328) (hm : n + m ≤ 140737488355328) :
    ∃ v' w', (Builtin.append_ #[t, t] ty #[v, u]).run P w = .ok v' w' ∧ w'.ownsRow 0 e k v' (n + m) (xs ++ ys) ∧ w.grownBy w' v.ownBlock ∧ (v'.ownBlock = v.ownBlock ∨ v'.ownBlock = some w.heap.size) := by
  obtain ⟨i, hi, hz, hik, hib⟩ := hi
  obtain ⟨A, cap, rfl, hl, hmc, hcm, hA⟩ := hu
  rcases Nat.eq_zero_or_pos m with h0 | h0
  · subst h0
    have hy : ys = [] := List.eq_nil_of_length_eq_zero (by simpa using hl)
    subst hy
    cases A with
    | none =>
      refine ⟨v, w, ?_, by simpa using hown, ⟨rfl, rfl, rfl, Nat.le_refl _, fun _ _ _ => rfl⟩, .inl rfl⟩
      rcases hown.2 with ⟨rfl, rfl⟩ | ⟨g, cp, cur, rfl, _, _, hnc, _⟩
      · simp [Builtin.append_, run_underlying ht, sizeOf, typeInfo, hi, Builtin.lenOf, Builtin.firstCells]
      · simp [Builtin.append_, run_underlying ht, sizeOf, typeInfo, hi, Builtin.lenOf, Builtin.firstCells, hnc, storeCells]
    | some a =>
      obtain ⟨v', w', h2, h3, h4, _, h5⟩ := run_append_own_at (P := P) w 0 t ty e i z k bytes ht hi hz hik hib hzk hk v n xs hown a 0 cap [] (by simp) (by simp) (by simp) (by unfold maxLen; omega) hb (Nat.zero_le _)
      exact ⟨v', w', h2, h3, h4, h5⟩
  · obtain ⟨a, rfl, hc⟩ := hA h0
    obtain ⟨v', w', h2, h3, h4, _, h5⟩ := run_append_own_at (P := P) w 0 t ty e i z k bytes ht hi hz hik hib hzk hk v n xs hown a m cap ys hl (fun j u hj => hs.cell (hc j u hj)) h1 (by unfold maxLen; omega) hb (Nat.zero_le _)
    exact ⟨v', w', h2, h3, h4, h5⟩

/-- append onto the first resource, a row. -/
theorem S_append {o p : Operand} {t e : TypeId} {z v u : Value} {k bytes n m : Nat} {xs ys : List Value} (hs : St c G (.row e k v n xs :: H) w) (ht : x.P.underlying t = some (.slice e)) (hi : TI x.P e z k bytes) (hzk : z.cells.size = k) (hk : 0 < k)
    (ho : ev E o = some v) (hp : ev E p = some u) (hu : Sl G u k m ys) (h1 : ∀ y ∈ ys, y.oneCell' = true) (hb : (n + m) * bytes ≤ 140737488355328) (hm : n + m ≤ 140737488355328)
    (kk : ∀ v' w', St c G (.row e k v' (n + m) (xs ++ ys) :: H) w' → K v' w') : S x ⟨d, .call { callee := .builtin .append, args := #[o, p], argTypes := #[t, t] }, ty, pos, aft, g⟩ Q K E w := by
  have hown : w.ownsRow 0 e k v n xs := hs.hold (.row e k v n xs) (by simp)
  obtain ⟨v', w', hr, h2, h3, h4⟩ := run_append_any (ty := ty) ht hi hzk hk hown hs hu h1 hb hm
  refine S_val rfl fun a ha => ⟨v', w', ?_, kk _ _ (hs.write h3.os h3.tape h3.output h3.size (fun j hj hne => h3.block j hj (fun he => hne he.symm)) h2 (fun j hj => ?_))⟩
  · simp [execOp, resolve, invoke, builtin, ha.ev ho, ha.ev hp, hr]
  · rcases h4 with h4 | h4
    · left; simpa [Res.foot, h4] using hj
    · right
      have : w.heap.size = j := by simpa [Res.foot, h4] using hj
      omega
/-- append of a string's bytes. -/
theorem run_append_str_dummy : True := trivial

/-- A call of a Go function. -/
theorem S_call {f : FuncId} {as : List Operand} {ats : Array TypeId} {args : List Value} {H1 : List Res} {R : Value → Ghost → List Res → Prop} {fn : Func} (hs : St c G (H1 ++ H) w) (ha : as.map (ev E) = args.map some) (hfn : x.P.funcs[f]? = some fn) (hb : fn.body.isSome = true)
    (hnm : (fn.name == "runtime.NumGoroutine") = false) (h : FnOk x.P f args G H1 R)
    (kk : ∀ v G' H' w', R v G' H' → G.le G' → St c G' (H' ++ H) w' → K v w') : S x ⟨d, .call { callee := .value (.func f), args := as.toArray, argTypes := ats }, ty, pos, aft, g⟩ Q K E w := by
  intro a hA next hn
  have hargs : as.map a.eval = args := by
    have : ∀ (as : List Operand) (args : List Value), as.map (ev E) = args.map some → as.map a.eval = args := by
      intro as
      induction as with
      | nil => intro args h; cases args with
        | nil => rfl
        | cons _ _ => cases h
      | cons o as ih =>
        intro args h
        cases args with
        | nil => cases h
        | cons v args =>
          simp only [List.map_cons, List.cons.injEq] at h
          simp [hA.ev h.1, ih args h.2]
    exact this as args ha
  refine ⟨fun _ _ => trivial, ?_⟩
  rw [Oper.semAt_eq _ _ _ (fun c hc => by cases hc)]
  have hr : (execOp a.eval ⟨d, .call { callee := .value (.func f), args := as.toArray, argTypes := ats }, ty, pos, aft, g⟩).run x.P w = .ok (.enter f args.toArray) w := by
    have hbn : ¬ fn.body = none := by intro h0; rw [h0] at hb; cases hb
    have hnm' : ¬ fn.name = "runtime.NumGoroutine" := by simpa using hnm
    simp [execOp, resolve, Deferred.ofValue, Act.eval, invoke, callFunc, hfn, hnm', hbn, hargs]
  rw [hr]
  refine ⟨fun h => (by cases h), ?_⟩
  have hcall := h.call hs
  have h2 := (callsIn_wide (n := 0)).2 hcall
  have h3 := CallsIn.mono (F := RF x.r) (n := 0 - 1) (R := _) (R' := fun
      | .returned v, w'' => next (a.put d v) w''
      | .panicked chain, w'' => lift x.N Q (.panic chain) a w''
      | .outgrown, _ => LetsOut (lift x.N Q)) h2 (fun e w' he => by
    obtain ⟨v, G', H', rfl, hle, hs', hR⟩ := he
    exact hn _ _ (kk v G' H' w' hR hle hs'))
  exact h3

/-- From now on the first resource, a row, never changes. -/
theorem St.fixRow {e k n : Nat} {v : Value} {xs : List Value} (hs : St c G (.row e k v n xs :: H) w) (hM : ∀ b, v.ownBlock = some b → ¬ c.M b) : ∃ G', G.le G' ∧ Sl G' v k n xs ∧ St c G' H w := by
  obtain ⟨G', h1, h2, h3⟩ := hs.freeze hM
  exact ⟨G', h1, Sl.of_row (hs.hold (.row e k v n xs) (by simp)) (fun b hb => h2 b hb), h3⟩

theorem St.rowOne {e k n : Nat} {v : Value} {xs : List Value} (i : Nat) (hs : St c G H w) (hi : H[i]? = some (.row e k v n xs)) : v.oneCell' = true := by
  have h := hs.hold _ (List.mem_of_getElem? hi)
  rcases h.2 with ⟨rfl, _⟩ | ⟨g, cp, cur, rfl, _⟩ <;> rfl

/-- A row, cut behind its first m elements. -/
theorem St.rowTake {e k n m b cap : Nat} {xs : List Value} (hs : St c G (.row e k (.slice (some ⟨b, 0, none⟩) n cap) n xs :: H) w) (hm : m ≤ n) : St c G (.row e k (.slice (some ⟨b, 0, none⟩) m cap) m (xs.take (m * k)) :: H) w := by
  have hown : w.ownsRow 0 e k (.slice (some ⟨b, 0, none⟩) n cap) n xs := hs.hold (.row e k _ n xs) (by simp)
  have hmk : m * k ≤ n * k := Nat.mul_le_mul_right _ hm
  refine hs.write rfl rfl rfl (Nat.le_refl _) (fun _ _ _ => rfl) ?_ (fun j hj => .inl hj)
  refine ⟨by rw [List.length_take, hown.1]; omega, ?_⟩
  rcases hown.2 with ⟨h, _⟩ | ⟨g, cp, cur, h, h0, hh, hnc, hcm, hsz, htk⟩
  · cases h
  · injection h with h1 h2 h3
    injection h1 with h1
    injection h1 with h1
    subst h1 h3
    refine .inr ⟨b, cap, cur, rfl, h0, hh, by omega, hcm, hsz, ?_⟩
    rw [← htk, List.take_take, Nat.min_eq_left hmk]
theorem Y_cap {W : World → Prop} {K : Value → Prop} {o : Operand} {t e : TypeId} {A : Option Addr} {n cp : Nat} (hu : x.P.underlying t = some (.slice e)) (h : ev E o = some (.slice A n cp)) (k : K (.int .i64 (cp : Int))) :
    Y x W ⟨d, .call { callee := .builtin .cap, args := #[o], argTypes := #[t] }, ty, pos, aft, g⟩ E K :=
  Y_of (v := .int .i64 (cp : Int)) (fun a ha w _ => by
    simp [execOp, resolve, invoke, builtin, Builtin.cap_, ha.ev h, run_underlying hu, goInt]) k
/-- s[:h], whatever s holds. -/
theorem Y_sliceRaw {W : World → Prop} {K : Value → Prop} {o q : Operand} {t e : TypeId} {A : Option Addr} {n cp s : Nat} {kd : IntKind} {j : Int} (h : Nat) (hu : x.P.underlying t = some (.slice e)) (hs : ∀ w, (sizeOf e).run x.P w = .ok s w) (h1 : ev E o = some (.slice A n cp)) (h2 : ev E q = some (.int kd j)) (hj : j = (h : Int)) (hh : h ≤ cp)
    (k : K (.slice A h cp)) : Y x W ⟨d, .slice t o none (some q) none, ty, pos, aft, g⟩ E K := by
  subst hj
  have hA : (if cp = 0 then A else A.map fun a => a.add (0 * s)) = A := by
    split
    · rfl
    · cases A with
      | none => rfl
      | some a => simp [Addr.add]
  refine Y_of (v := .slice A h cp) (fun f hf w _ => ?_) k
  simp only [Nat.zero_mul] at hA
  simp [execOp, hf.ev h1, hf.ev h2, Instr.sliceAt, Instr.slice, Instr.sliceBounds, Instr.sliceBound, asIntOf, run_underlying hu, hs w, hh, hA]
/-- append(nil, make([]T, n)...): n zero elements in a new block. -/
theorem S_appendZ {o p : Operand} {t ti e : TypeId} {kd : IntKind} {z : Value} {bytes n : Nat} (hs : St c G H w) (ht : x.P.underlying t = some (.slice e)) (hti : x.P.underlying ti = some (.int kd)) (hi : TI x.P e z 1 bytes) (hzk : z.cells.size = 1)
    (ho : ev E o = some (.slice none 0 0)) (hp : ev E p = some (.int kd (n : Int))) (h0 : 0 < n) (hb : n * bytes ≤ 140737488355328) (hm : n ≤ 140737488355328)
    (kk : ∀ b cp xs w', n ≤ cp → St c G (.row e 1 (.slice (some ⟨b, 0, none⟩) n cp) n xs :: H) w' → K (.slice (some ⟨b, 0, none⟩) n cp) w') : S x ⟨d, .call { callee := .builtin .append, args := #[o, p], argTypes := #[t, ti] }, ty, pos, aft, g⟩ Q K E w := by
  obtain ⟨i, hi, hz, hik, hib⟩ := hi
  have wl : IntKind.i64.wrap (n : Int) = n := wrap64_eq (by omega)
  have hbz : ((n : Int) * (i.bytes : Int)) ≤ 140737488355328 := by
    have h : ((n * bytes : Nat) : Int) ≤ 140737488355328 := by omega
    rw [hib]; rwa [Int.natCast_mul] at h
  have e1 : ¬ ((281474976710656 : Int) < (n : Int) * (i.bytes : Int)) := Int.not_lt.2 (Int.le_trans hbz (by decide))
  have e2 : Builtin.nextslicecap n 0 = n := nextslicecap_zero h0
  have e3 : ¬ (281474976710656 < n * i.bytes) := by rw [hib]; omega
  have hgc := grownCap_ge w n 0 e
  have hcm := grownCap_le_maxLen w n 0 e (by unfold maxLen; omega)
  have hd1 : St c G H w.drew := hs.drew
  have hsz : ∀ q, (Builtin.zeroCells z.cells q).size = q := fun q => by rw [size_zeroCells, hzk, Nat.mul_one]
  have hrow : Res.holds (w.drew.alloc (.cells (Builtin.zeroCells z.cells n ++ Builtin.zeroCells z.cells (grownCap w n 0 e - n)) e)) (.row e 1 (.slice (some ⟨w.heap.size, 0, none⟩) n (grownCap w n 0 e)) n (Builtin.zeroCells z.cells n).toList) := by
    refine ⟨by rw [Array.length_toList, hsz, Nat.mul_one], .inr ⟨_, _, _, rfl, Nat.zero_le _, heap_alloc_new w.drew _, hgc, hcm, ?_, ?_⟩⟩
    · rw [Array.size_append, hsz, hsz, Nat.mul_one]; omega
    · rw [Array.toList_append, Nat.mul_one]
      exact List.take_left' (by rw [Array.length_toList, hsz])
  refine S_val rfl fun a ha => ⟨_, _, ?_, kk w.heap.size (grownCap w n 0 e) (Builtin.zeroCells z.cells n).toList _ hgc (hd1.alloc _ hrow (fun j hj => by
    have : w.heap.size = j := by simpa [Res.foot, Value.ownBlock] using hj
    exact this.symm))⟩
  have hl0 : ¬ ((n : Int) < 0) := by omega
  have hn0 : ¬ (n = 0) := by omega
  have hbig : ¬ (9223372036854775807 < (n : Int)) := by omega
  have hrun : (Builtin.append_ #[t, ti] ty #[.slice none 0 0, .int kd (n : Int)]).run x.P w = .ok (.slice (some ⟨w.heap.size, 0, none⟩) n (grownCap w n 0 e)) (w.drew.alloc (.cells (Builtin.zeroCells z.cells n ++ Builtin.zeroCells z.cells (grownCap w n 0 e - n)) e)) := by
    simp [Builtin.append_, run_underlying ht, run_underlying hti, sizeOf, typeInfo, zeroValue, hi, hz, hik, asInt, asIntOf, wl, e1, e2, e3, hn0, hbig, Question.forced, run_firstCells_none, newRow, grownCap]
    intro h; omega
  simp [execOp, resolve, invoke, builtin, ha.ev ho, ha.ev hp, hrun]
end
end Go.Ex
