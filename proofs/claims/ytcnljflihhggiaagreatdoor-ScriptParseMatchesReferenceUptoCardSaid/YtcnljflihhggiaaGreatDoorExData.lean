/- Results of a function; what slices read as. -/
import Derived.Test.YtcnljflihhggiaaGreatDoorExActs
import Derived.Laws.Strings
namespace Go.Ex
open Go Go.RowKit

def All2 {α β : Type} (R : α → β → Prop) : List α → List β → Prop
  | [], [] => True
  | a :: l, b :: m => R a b ∧ All2 R l m
  | _, _ => False
theorem All2.length {α β : Type} {R : α → β → Prop} : ∀ {l : List α} {m : List β}, All2 R l m → l.length = m.length
  | [], [], _ => rfl
  | _ :: _, _ :: _, h => by simp [All2.length h.2]
theorem All2.mono {α β : Type} {R R' : α → β → Prop} (hr : ∀ a b, R a b → R' a b) : ∀ {l : List α} {m : List β}, All2 R l m → All2 R' l m
  | [], [], _ => trivial
  | _ :: _, _ :: _, h => ⟨hr _ _ h.1, All2.mono hr h.2⟩
theorem All2.get {α β : Type} {R : α → β → Prop} : ∀ {l : List α} {m : List β} (i : Nat), All2 R l m → (h : i < m.length) → ∃ a, l[i]? = some a ∧ R a m[i]
  | [], [], i, _, h => by simp at h
  | a :: _, b :: _, 0, h, _ => ⟨a, rfl, h.1⟩
  | _ :: l, _ :: m, i + 1, h, hi => by
    obtain ⟨a, h1, h2⟩ := All2.get i h.2 (by simpa using hi)
    exact ⟨a, by simpa using h1, by simpa using h2⟩
theorem All2.append {α β : Type} {R : α → β → Prop} : ∀ {l l' : List α} {m m' : List β}, All2 R l m → All2 R l' m' → All2 R (l ++ l') (m ++ m')
  | [], _, [], _, _, h' => h'
  | _ :: _, _, _ :: _, _, h, h' => ⟨h.1, All2.append h.2 h'⟩
theorem All2.drop {α β : Type} {R : α → β → Prop} : ∀ {l : List α} {m : List β} (i : Nat), All2 R l m → All2 R (l.drop i) (m.drop i)
  | l, m, 0, h => by simpa using h
  | [], [], _ + 1, _ => trivial
  | _ :: _, _ :: _, i + 1, h => by simpa using All2.drop i h.2
theorem All2.take {α β : Type} {R : α → β → Prop} : ∀ {l : List α} {m : List β} (i : Nat), All2 R l m → All2 R (l.take i) (m.take i)
  | _, _, 0, _ => by simp [All2]
  | [], [], _ + 1, _ => trivial
  | _ :: _, _ :: _, i + 1, h => ⟨h.1, All2.take i h.2⟩

/-! ### What a function returns -/
def ResOk (P : Program) (E : Env) (w : World) : ResultVar → Value → Prop
  | .tmp t, v => eget E.l t = some v
  | .cell a ty, v => ∃ p, eget E.l a = some (.pointer (some p)) ∧ (loadVar ty p).run P w = .ok v w
def tup : List Value → Value
  | [v] => v
  | vs => .tuple vs.toArray

def getR (tmps : Array Value) : ResultVar → Sem Value
  | .tmp t => pure (tmps.getD t undef)
  | .cell b t => do loadVar t (← asAddr (tmps.getD b undef))
theorem results_eq (fn : Func) (tmps : Array Value) : results fn tmps = (do let vs ← fn.results.mapM (getR tmps); pure (if h : vs.size = 1 then vs[0] else .tuple vs)) := by
  unfold results
  congr 2
theorem run_getR {P : Program} {N : Nat} {E : Env} {w : World} {a : Act} (ha : Ag N E a) {r : ResultVar} {v : Value} (h : ResOk P E w r v) : (getR a.tmps r).run P w = .ok v w := by
  cases r with
  | tmp t =>
    have := ha.look t v h
    simp [getR, this]
  | cell b t =>
    obtain ⟨p, hp, hl⟩ := h
    have := ha.look b _ hp
    simp [getR, this, asAddr, hl]
theorem mapM_results {P : Program} {N : Nat} {E : Env} {w : World} {a : Act} (ha : Ag N E a) : ∀ {rs : List ResultVar} {vs : List Value}, All2 (ResOk P E w) rs vs →
    (rs.mapM (getR a.tmps)).run P w = .ok vs w
  | [], [], _ => by simp
  | r :: rs, v :: vs, h => by
    have ih := mapM_results ha h.2
    have h1 := run_getR ha h.1
    simp only [List.mapM_cons, Sem.run_bind, h1, Result.andThen_ok, ih, Sem.run_pure]

theorem results_run {P : Program} {N : Nat} {E : Env} {w : World} {fn : Func} {rs : List ResultVar} {vs : List Value} (hr : fn.results = rs.toArray) (h : All2 (ResOk P E w) rs vs) :
    ∀ a, Ag N E a → (results fn a.tmps).run P w = .ok (tup vs) w := by
  intro a ha
  have hm := mapM_results ha h
  rw [results_eq, hr]
  simp only [List.mapM_toArray, Sem.run_bind, Sem.run_map, hm, Result.andThen_ok, Sem.run_pure]
  match vs with
  | [] => rfl
  | [v] => rfl
  | _ :: _ :: _ => simp [tup]

/-- The end of a body: results in their slots. -/
theorem Rt_fin {P : Program} {N : Nat} {E : Env} {w : World} {fn : Func} {rs : List ResultVar} {vs : List Value} {R : Value → World → Prop} (hr : fn.results = rs.toArray) (hd : E.d = []) (h : All2 (ResOk P E w) rs vs) (hR : R (tup vs) w) :
    Rt P N fn R .ret E w := ⟨hd, tup vs, results_run hr h, hR⟩
theorem Rt_finN {P : Program} {N : Nat} {E : Env} {w : World} {fn : Func} {rs : List ResultVar} {vs : List Value} {R : Value → World → Prop} (hr : fn.results = rs.toArray) (hd : E.d = []) (h : All2 (ResOk P E w) rs vs) (hR : R (tup vs) w) :
    Rt P N fn R .normal E w := ⟨hd, tup vs, results_run hr h, hR⟩

/-- A struct result in an owned block. -/
theorem ResOk_blk {P : Program} {E : Env} {w : World} {c : Ctx} {G : Ghost} {H : List Res} {a b e n : Nat} {ty : TypeId} {cs : List Value} (i : Nat) (hs : St c G H w) (hA : ∀ w, (isAgg ty).run P w = .ok true w) (hS : ∀ w, (sizeOf ty).run P w = .ok n w)
    (h : eget E.l a = some (.pointer (some ⟨b, 0, none⟩))) (hi : H[i]? = some (.blk b e cs)) (hn : cs.length = n) : ResOk P E w (.cell a ty) (.agg cs.toArray) := by
  refine ⟨_, h, run_loadVar_agg (hA w) (hS w) hn fun q u hq => ?_⟩
  have hb : w.heap[b]? = some (.cells cs.toArray e (0, 0)) := hs.hold _ (List.mem_of_getElem? hi)
  have hadd : ((⟨b, 0, none⟩ : Addr).add q) = ⟨b, q, none⟩ := by
    unfold Addr.add; split
    · rename_i h0; simp [h0]
    · simp
  rw [hadd]
  simp [World.cell?, hb, hq]

/-! ### Bytes, integers, slices of byte slices -/
abbrev byteV (b : UInt8) : Value := .int .u8 (b.toNat : Int)
def Bytes (G : Ghost) (v : Value) (bs : List UInt8) : Prop := Sl G v 1 bs.length (bs.map byteV)
theorem Bytes.mono {G G' : Ghost} (h : G.le G') {v : Value} {bs : List UInt8} (hb : Bytes G v bs) : Bytes G' v bs := Sl.mono h hb
def Ints (G : Ghost) (v : Value) (l : List Int) : Prop := Sl G v 1 l.length (l.map (.int .i64))
theorem Ints.mono {G G' : Ghost} (h : G.le G') {v : Value} {l : List Int} (hb : Ints G v l) : Ints G' v l := Sl.mono h hb
/-- A slice of slices of bytes. -/
def LBytes (G : Ghost) (v : Value) (l : List (List UInt8)) : Prop := ∃ vs, Sl G v 1 l.length vs ∧ All2 (Bytes G) vs l
theorem LBytes.mono {G G' : Ghost} (h : G.le G') {v : Value} {l : List (List UInt8)} (hb : LBytes G v l) : LBytes G' v l := by
  obtain ⟨vs, h1, h2⟩ := hb
  exact ⟨vs, h1.mono h, h2.mono fun _ _ => Bytes.mono h⟩

theorem byteV_one {l : List UInt8} : ∀ y ∈ l.map byteV, y.oneCell' = true := by
  intro y hy
  obtain ⟨b, _, rfl⟩ := List.mem_map.1 hy
  rfl
theorem intV_one {l : List Int} : ∀ y ∈ l.map (Value.int .i64), y.oneCell' = true := by
  intro y hy
  obtain ⟨b, _, rfl⟩ := List.mem_map.1 hy
  rfl

theorem Bytes.nil_of {G : Ghost} {n c : Nat} {bs : List UInt8} (h : Bytes G (.slice none n c) bs) : bs = [] := by
  obtain ⟨A, c', he, _, _, _, hA⟩ := h
  injection he with h1 h2 h3
  subst h1
  rcases Nat.eq_zero_or_pos bs.length with h0 | h0
  · exact List.eq_nil_of_length_eq_zero h0
  · obtain ⟨a, ha, _⟩ := hA h0; cases ha

/-- A slice held against nil. -/
theorem Y_nilS {x : Cx} {W : World → Prop} {E : Env} {K : Value → Prop} {d : Option Tmp} {ty : TypeId} {pos : String} {aft : Array Edge} {g : Option (Nat × Bool)} {o p : Operand} {xt yt e : TypeId} {A : Option Addr} {n c : Nat} (hu : x.P.underlying xt = some (.slice e)) (h1 : ev E o = some (.slice A n c)) (h2 : ev E p = some (.slice none 0 0))
    (hT : A = none → K (.bool true)) (hF : ¬ A = none → K (.bool false)) : Y x W ⟨d, .binOp .eql xt o p yt, ty, pos, aft, g⟩ E K := by
  cases A with
  | none =>
    refine Y_of (v := .bool true) (fun f hf w _ => ?_) (hT rfl)
    have he : eqGuard .eql xt o p (.slice none n c) (.slice none 0 0) = pure () := rfl
    have h : ∀ q : Nat, (Op.equalIn (q + 1) xt (.slice none n c) (.slice none 0 0)).run x.P w = .ok true w := fun q => by simp [Op.equalIn, run_underlying hu]
    have h' : (binOp .eql xt (.slice none n c) (.slice none 0 0)).run x.P w = .ok (.bool true) w := by
      simp only [binOp]
      simp [Op.equal, Op.maxDepth, h 9999]
    simp only [execOp, hf.ev h1, hf.ev h2, he]
    simp [h']
  | some a =>
    refine Y_of (v := .bool false) (fun f hf w _ => ?_) (hF (by simp))
    have he : eqGuard .eql xt o p (.slice (some a) n c) (.slice none 0 0) = pure () := rfl
    have h : ∀ q : Nat, (Op.equalIn (q + 1) xt (.slice (some a) n c) (.slice none 0 0)).run x.P w = .ok false w := fun q => by simp [Op.equalIn, run_underlying hu]
    have h' : (binOp .eql xt (.slice (some a) n c) (.slice none 0 0)).run x.P w = .ok (.bool false) w := by
      simp only [binOp]
      simp [Op.equal, Op.maxDepth, h 9999]
    simp only [execOp, hf.ev h1, hf.ev h2, he]
    simp [h']

section
variable {x : Cx} {W : World → Prop} {E : Env} {K : Value → Prop} {d : Option Tmp} {ty : TypeId} {pos : String} {aft : Array Edge} {g : Option (Nat × Bool)} {o q : Operand} {t e : TypeId} {kd : IntKind} {j : Int} {v : Value} {G : Ghost}
/-- The address of an element of one cell. -/
theorem Y_idx1 {n : Nat} {xs : List Value} {u : Value} (i : Nat) (hu : x.P.underlying t = some (.slice e)) (hs : ∀ w, (sizeOf e).run x.P w = .ok 1 w) (hS : Sl G v 1 n xs) (h1 : ev E o = some v) (h2 : ev E q = some (.int kd j)) (hj : j = (i : Int)) (hx : xs[i]? = some u)
    (k : ∀ p, gcell G p = some u → K (.pointer (some p))) : Y x W ⟨d, .indexAddr t o q, ty, pos, aft, g⟩ E K := by
  have hlt : i < n := by
    have h3 := (List.getElem?_eq_some_iff.1 hx).1
    rw [hS.len] at h3; omega
  refine Y_idx i hu hs hS h1 h2 hj hlt fun p hp => k p ?_
  have := hp 0 u (by simpa using hx)
  exact this
theorem Y_idxB {bs : List UInt8} (hb : Bytes G v bs) (i : Nat) (hu : x.P.underlying t = some (.slice e)) (hs : ∀ w, (sizeOf e).run x.P w = .ok 1 w) (h1 : ev E o = some v) (h2 : ev E q = some (.int kd j)) (hj : j = (i : Int)) (hi : i < bs.length)
    (k : ∀ p, gcell G p = some (byteV bs[i]) → K (.pointer (some p))) : Y x W ⟨d, .indexAddr t o q, ty, pos, aft, g⟩ E K :=
  Y_idx1 i hu hs hb h1 h2 hj (by simp [hi]) k
theorem Y_idxI {l : List Int} (hb : Ints G v l) (i : Nat) (hu : x.P.underlying t = some (.slice e)) (hs : ∀ w, (sizeOf e).run x.P w = .ok 1 w) (h1 : ev E o = some v) (h2 : ev E q = some (.int kd j)) (hj : j = (i : Int)) (hi : i < l.length)
    (k : ∀ p, gcell G p = some (.int .i64 l[i]) → K (.pointer (some p))) : Y x W ⟨d, .indexAddr t o q, ty, pos, aft, g⟩ E K :=
  Y_idx1 i hu hs hb h1 h2 hj (by simp [hi]) k
theorem Y_idxL {l : List (List UInt8)} (hb : LBytes G v l) (i : Nat) (hu : x.P.underlying t = some (.slice e)) (hs : ∀ w, (sizeOf e).run x.P w = .ok 1 w) (h1 : ev E o = some v) (h2 : ev E q = some (.int kd j)) (hj : j = (i : Int)) (hi : i < l.length)
    (k : ∀ p u, gcell G p = some u → Bytes G u l[i] → K (.pointer (some p))) : Y x W ⟨d, .indexAddr t o q, ty, pos, aft, g⟩ E K := by
  obtain ⟨vs, h3, h4⟩ := hb
  obtain ⟨u, hu', hB⟩ := h4.get i hi
  exact Y_idx1 i hu hs h3 h1 h2 hj hu' fun p hp => k p u hp hB
/-- A part of bytes. -/
theorem Y_sliceB {lo hi : Option Operand} {bs : List UInt8} (hb : Bytes G v bs) (l h : Nat) (hu : x.P.underlying t = some (.slice e)) (hs : ∀ w, (sizeOf e).run x.P w = .ok 1 w) (h1 : ev E o = some v) (hlo : bnd E lo 0 l) (hhi : bnd E hi bs.length h) (hl : l ≤ h) (hh : h ≤ bs.length)
    (k : ∀ v', Bytes G v' ((bs.drop l).take (h - l)) → K v') : Y x W ⟨d, .slice t o lo hi none, ty, pos, aft, g⟩ E K :=
  Y_slice l h hu hs hb h1 hlo hhi hl hh fun v' hv => k v' (by
    unfold Bytes
    have : ((bs.drop l).take (h - l)).length = h - l := by rw [List.length_take, List.length_drop]; omega
    rw [this]
    simpa [List.map_take, List.map_drop] using hv)
theorem Y_sliceI {lo hi : Option Operand} {bs : List Int} (hb : Ints G v bs) (l h : Nat) (hu : x.P.underlying t = some (.slice e)) (hs : ∀ w, (sizeOf e).run x.P w = .ok 1 w) (h1 : ev E o = some v) (hlo : bnd E lo 0 l) (hhi : bnd E hi bs.length h) (hl : l ≤ h) (hh : h ≤ bs.length)
    (k : ∀ v', Ints G v' ((bs.drop l).take (h - l)) → K v') : Y x W ⟨d, .slice t o lo hi none, ty, pos, aft, g⟩ E K :=
  Y_slice l h hu hs hb h1 hlo hhi hl hh fun v' hv => k v' (by
    unfold Ints
    have : ((bs.drop l).take (h - l)).length = h - l := by rw [List.length_take, List.length_drop]; omega
    rw [this]
    simpa [List.map_take, List.map_drop] using hv)
theorem Y_sliceL {lo hi : Option Operand} {bs : List (List UInt8)} (hb : LBytes G v bs) (l h : Nat) (hu : x.P.underlying t = some (.slice e)) (hs : ∀ w, (sizeOf e).run x.P w = .ok 1 w) (h1 : ev E o = some v) (hlo : bnd E lo 0 l) (hhi : bnd E hi bs.length h) (hl : l ≤ h) (hh : h ≤ bs.length)
    (k : ∀ v', LBytes G v' ((bs.drop l).take (h - l)) → K v') : Y x W ⟨d, .slice t o lo hi none, ty, pos, aft, g⟩ E K := by
  obtain ⟨vs, h3, h4⟩ := hb
  refine Y_slice l h hu hs h3 h1 hlo hhi hl hh fun v' hv => k v' ⟨_, ?_, (h4.drop l).take (h - l)⟩
  have : ((bs.drop l).take (h - l)).length = h - l := by rw [List.length_take, List.length_drop]; omega
  rw [this]
  simpa using hv
end

/-- bytes to a string. -/
theorem Y_str {x : Cx} {E : Env} {K : Value → Prop} {d : Option Tmp} {ty : TypeId} {pos : String} {aft : Array Edge} {g : Option (Nat × Bool)} {o : Operand} {src dst e : TypeId} {v : Value} {bs : List UInt8} {c : Ctx} {G : Ghost} {H : List Res}
    (hsr : x.P.underlying src = some (.slice e)) (he : x.P.underlying e = some (.int .u8)) (hd : x.P.underlying dst = some .string) (h : ev E o = some v) (hb : Bytes G v bs) (k : K (.string ⟨bs.toArray⟩)) :
    Y x (St c G H) ⟨d, .convert src dst o, ty, pos, aft, g⟩ E K := by
  obtain ⟨A, cap, rfl, hl, _, _, hA⟩ := hb
  refine Y_of (v := .string ⟨bs.toArray⟩) (fun f hf w hw => ?_) k
  have hr : (convert src dst (.slice A bs.length cap)).run x.P w = .ok (.string ⟨bs.toArray⟩) w := by
    rw [run_convert_bytes_string w src dst e _ bs.length cap hsr he hd]
    cases A with
    | none =>
      have : bs = [] := by
        rcases Nat.eq_zero_or_pos bs.length with h0 | h0
        · exact List.eq_nil_of_length_eq_zero h0
        · obtain ⟨a, ha, _⟩ := hA h0; cases ha
      subst this
      rfl
    | some a =>
      have hc : ∀ j u, (bs.map byteV)[j]? = some u → w.cell? (a.add j) = some u := by
        intro j u hj
        have hp : 0 < bs.length := by
          rcases Nat.eq_zero_or_pos bs.length with h0 | h0
          · rw [List.eq_nil_of_length_eq_zero h0] at hj; cases hj
          · exact h0
        obtain ⟨a', ha', hc⟩ := hA hp
        injection ha' with ha'
        subst ha'
        exact hw.cell (hc j u hj)
      have hlc := run_loadCells_list (P := x.P) w a (bs.map byteV) hc
      have hm : bs.map byteV = (bs.map fun b => (b.toNat : Int)).map (Value.int .u8) := by simp
      rw [List.length_map, hm] at hlc
      rw [run_bytesToString w a bs.length cap _ hlc, foldl_push_bytes]
      have : ((bs.map fun b => (b.toNat : Int)).map fun n => UInt8.ofNat n.toNat) = bs := by
        rw [List.map_map]
        conv => rhs; rw [← List.map_id bs]
        apply List.map_congr_left
        intro b _
        simp
      rw [this]
      simp [ByteArray.empty, ByteArray.emptyWithCapacity]
      rfl
  simp [execOp, hf.ev h, hr]

/-- Two strings, compared. -/
theorem Y_strEq {x : Cx} {W : World → Prop} {E : Env} {K : Value → Prop} {d : Option Tmp} {ty : TypeId} {pos : String} {aft : Array Edge} {g : Option (Nat × Bool)} {o p : Operand} {xt yt : TypeId} {s t : ByteArray} {b : Bool}
    (h1 : ev E o = some (.string s)) (h2 : ev E p = some (.string t)) (hb : (s.data.toList = t.data.toList) ↔ b = true) (k : K (.bool b)) : Y x W ⟨d, .binOp .eql xt o p yt, ty, pos, aft, g⟩ E K := by
  refine Y_of (v := .bool b) (fun f hf w _ => ?_) k
  have he : eqGuard .eql xt o p (.string s) (.string t) = pure () := rfl
  have : (s.toList == t.toList) = b := by
    have e1 : ∀ q : ByteArray, q.toList = q.data.toList := fun q => ByteArray.toList_eq q
    rw [e1, e1]
    cases b <;> simp_all
  simp only [execOp, hf.ev h1, hf.ev h2, he]
  simp [binOp, Op.stringOp, this]
theorem Y_strNe {x : Cx} {W : World → Prop} {E : Env} {K : Value → Prop} {d : Option Tmp} {ty : TypeId} {pos : String} {aft : Array Edge} {g : Option (Nat × Bool)} {o p : Operand} {xt yt : TypeId} {s t : ByteArray} {b : Bool}
    (h1 : ev E o = some (.string s)) (h2 : ev E p = some (.string t)) (hb : (¬ s.data.toList = t.data.toList) ↔ b = true) (k : K (.bool b)) : Y x W ⟨d, .binOp .neq xt o p yt, ty, pos, aft, g⟩ E K := by
  refine Y_of (v := .bool b) (fun f hf w _ => ?_) k
  have he : eqGuard .neq xt o p (.string s) (.string t) = pure () := rfl
  have : (!(s.toList == t.toList)) = b := by
    have e1 : ∀ q : ByteArray, q.toList = q.data.toList := fun q => ByteArray.toList_eq q
    rw [e1, e1]
    cases b <;> simp_all
  simp only [execOp, hf.ev h1, hf.ev h2, he]
  simp [binOp, Op.stringOp, this]
section
variable {x : Cx} {W : World → Prop} {E : Env} {K : Value → Prop} {d : Option Tmp} {ty : TypeId} {pos : String} {aft : Array Edge} {g : Option (Nat × Bool)} {o p : Operand} {xt yt : TypeId}
theorem Y_strEqS {a b : List UInt8} (h1 : ev E o = some (.string ⟨a.toArray⟩)) (h2 : ev E p = some (.string ⟨b.toArray⟩)) (hT : a = b → K (.bool true)) (hF : ¬ a = b → K (.bool false)) : Y x W ⟨d, .binOp .eql xt o p yt, ty, pos, aft, g⟩ E K := by
  by_cases h : a = b
  · exact Y_strEq h1 h2 (b := true) (by simp [h]) (hT h)
  · exact Y_strEq h1 h2 (b := false) (by simp [h]) (hF h)
theorem Y_strNeS {a b : List UInt8} (h1 : ev E o = some (.string ⟨a.toArray⟩)) (h2 : ev E p = some (.string ⟨b.toArray⟩)) (hT : ¬ a = b → K (.bool true)) (hF : a = b → K (.bool false)) : Y x W ⟨d, .binOp .neq xt o p yt, ty, pos, aft, g⟩ E K := by
  by_cases h : a = b
  · exact Y_strNe h1 h2 (b := false) (by simp [h]) (hF h)
  · exact Y_strNe h1 h2 (b := true) (by simp [h]) (hT h)
theorem Y_boolEqS {a b : Bool} (hu : x.P.underlying xt = some .bool) (h1 : ev E o = some (.bool a)) (h2 : ev E p = some (.bool b)) (hT : a = b → K (.bool true)) (hF : ¬ a = b → K (.bool false)) : Y x W ⟨d, .binOp .eql xt o p yt, ty, pos, aft, g⟩ E K := by
  have hk : K (.bool (a == b)) := by
    by_cases h : a = b
    · rw [beq_iff_eq.2 h]; exact hT h
    · rw [beq_eq_false_iff_ne.2 h]; exact hF h
  refine Y_of (v := .bool (a == b)) (fun f hf w _ => ?_) hk
  have he : eqGuard .eql xt o p (.bool a) (.bool b) = pure () := rfl
  have h : ∀ q : Nat, (Op.equalIn (q + 1) xt (.bool a) (.bool b)).run x.P w = .ok (a == b) w := fun q => by simp [Op.equalIn, run_underlying hu]
  have h' : (binOp .eql xt (.bool a) (.bool b)).run x.P w = .ok (.bool (a == b)) w := by
    simp only [binOp]
    simp [Op.equal, Op.maxDepth, h 9999]
  simp only [execOp, hf.ev h1, hf.ev h2, he]
  simp [h']
end

theorem LBytes.nil (G : Ghost) : LBytes G (.slice none 0 0) [] := ⟨[], Sl.nil G 1, trivial⟩
theorem All2.snoc {α β : Type} {R : α → β → Prop} {l : List α} {m : List β} {a : α} {b : β} (h : All2 R l m) (hab : R a b) : All2 R (l ++ [a]) (m ++ [b]) := All2.append h ⟨hab, trivial⟩
theorem one1 {v : Value} (h : v.oneCell' = true) : ∀ y ∈ [v], y.oneCell' = true := by
  intro y hy
  obtain rfl : y = v := by simpa using hy
  exact h
theorem Bytes.one {G : Ghost} {v : Value} {bs : List UInt8} (h : Bytes G v bs) : v.oneCell' = true := by
  obtain ⟨_, _, rfl, _⟩ := h; rfl
/-- The values of a list of byte slices. -/
def LB (G : Ghost) (vs : List Value) (l : List (List UInt8)) : Prop := All2 (Bytes G) vs l
theorem LB.mono {G G' : Ghost} (h : G.le G') {vs : List Value} {l : List (List UInt8)} (hb : LB G vs l) : LB G' vs l := All2.mono (fun _ _ => Bytes.mono h) hb
theorem LB.snoc {G : Ghost} {vs : List Value} {l : List (List UInt8)} {v : Value} {b : List UInt8} (h : LB G vs l) (hb : Bytes G v b) : LB G (vs ++ [v]) (l ++ [b]) := All2.snoc h hb
theorem LB.nil (G : Ghost) : LB G [] [] := trivial
theorem LB.one {G : Ghost} {vs : List Value} {l : List (List UInt8)} (h : LB G vs l) : ∀ y ∈ vs, y.oneCell' = true := by
  have key : ∀ (vs : List Value) (l : List (List UInt8)), LB G vs l → ∀ y ∈ vs, y.oneCell' = true := by
    intro vs
    induction vs with
    | nil => intro l _ y hy; cases hy
    | cons v vs ih =>
      intro l h y hy
      cases l with
      | nil => exact h.elim
      | cons b l =>
        rcases List.mem_cons.1 hy with rfl | hy
        · exact Bytes.one h.1
        · exact ih l h.2 y hy
  exact key vs l h
theorem wrap64_byte (a : UInt8) : IntKind.i64.wrap (a.toNat : Int) = (a.toNat : Int) := wrap64_eq (by have := a.toNat_lt; omega)
theorem Bytes.cast {G : Ghost} {v : Value} {a b : List UInt8} (h : a = b) (hb : Bytes G v a) : Bytes G v b := h ▸ hb
theorem LBytes.cast {G : Ghost} {v : Value} {a b : List (List UInt8)} (h : a = b) (hb : LBytes G v a) : LBytes G v b := h ▸ hb
theorem Ints.cast {G : Ghost} {v : Value} {a b : List Int} (h : a = b) (hb : Ints G v a) : Ints G v b := h ▸ hb
theorem LBytes.of {G : Ghost} {v : Value} {vs : List Value} {l : List (List UInt8)} (h : Sl G v 1 vs.length vs) (h2 : LB G vs l) : LBytes G v l := ⟨vs, by rw [← All2.length h2]; exact h, h2⟩
theorem Bytes.ofSl {G : Ghost} {v : Value} {n : Nat} {xs : List Value} {bs : List UInt8} (h : Sl G v 1 n xs) (hn : n = bs.length) (hx : xs = bs.map byteV) : Bytes G v bs := by
  subst hn hx; exact h
theorem LBytes.ofSl {G : Ghost} {v : Value} {n : Nat} {vs : List Value} {l : List (List UInt8)} (h : Sl G v 1 n vs) (hn : n = l.length) (h2 : LB G vs l) : LBytes G v l := by
  subst hn; exact ⟨vs, h, h2⟩
/-- A slice of integers that are numbers. -/
def Nats (G : Ghost) (v : Value) (l : List Nat) : Prop := Sl G v 1 l.length (l.map fun x : Nat => .int .i64 (x : Int))
theorem Nats.mono {G G' : Ghost} (h : G.le G') {v : Value} {l : List Nat} (hb : Nats G v l) : Nats G' v l := Sl.mono h hb
theorem Nats.ofSl {G : Ghost} {v : Value} {n : Nat} {xs : List Value} {l : List Nat} (h : Sl G v 1 n xs) (hn : n = l.length) (hx : xs = l.map fun x : Nat => .int .i64 (x : Int)) : Nats G v l := by
  subst hn hx; exact h
section
variable {x : Cx} {W : World → Prop} {E : Env} {K : Value → Prop} {d : Option Tmp} {ty : TypeId} {pos : String} {aft : Array Edge} {g : Option (Nat × Bool)}
  {c : Ctx} {G : Ghost} {H : List Res} {v : Value} {t e : TypeId} {o q : Operand} {kd : IntKind} {j : Int}
theorem Y_idxN {l : List Nat} (hb : Nats G v l) (i : Nat) (hu : x.P.underlying t = some (.slice e)) (hs : ∀ w, (sizeOf e).run x.P w = .ok 1 w) (h1 : ev E o = some v) (h2 : ev E q = some (.int kd j)) (hj : j = (i : Int)) (hi : i < l.length)
    (k : ∀ p, gcell G p = some (.int .i64 ((l[i] : Nat) : Int)) → K (.pointer (some p))) : Y x W ⟨d, .indexAddr t o q, ty, pos, aft, g⟩ E K :=
  Y_idx1 i hu hs hb h1 h2 hj (by simp [hi]) k
end
end Go.Ex
