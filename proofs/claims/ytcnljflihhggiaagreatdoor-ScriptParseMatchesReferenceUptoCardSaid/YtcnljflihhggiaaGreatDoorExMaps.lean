/- Calls of closures; maps of one's own. -/
import Derived.Test.YtcnljflihhggiaaGreatDoorExMore
import Derived.WideMake
import Derived.MapKept
namespace Go.Ex
open Go Go.RowKit

theorem evals {N : Nat} {E : Env} {a : Act} (hA : Ag N E a) : ∀ (as : List Operand) (args : List Value), as.map (ev E) = args.map some → as.map a.eval = args := by
  intro as
  induction as with
  | nil => intro args h; cases args with
    | nil => rfl
    | cons _ _ => cases h
  | cons o as ih =>
    intro args h
    cases args with
    | nil => cases h
    | cons v args =>
      simp only [List.map_cons, List.cons.injEq] at h
      simp [hA.ev h.1, ih args h.2]

section
variable {x : Cx} {Q : Exit → Env → World → Prop} {E : Env} {K : Value → World → Prop} {w : World} {d : Option Tmp} {ty : TypeId} {pos : String} {aft : Array Edge} {g : Option (Nat × Bool)} {c : Ctx} {G : Ghost} {H : List Res}

/-- A call of a closure. -/
theorem S_callV {f : FuncId} {cl : Operand} {as : List Operand} {ats : Array TypeId} {args lb : List Value} {H1 : List Res} {R : Value → Ghost → List Res → Prop} {fn : Func} (hs : St c G (H1 ++ H) w) (hc : ev E cl = some (.func (.func f) #[] lb.toArray))
    (ha : as.map (ev E) = args.map some) (hfn : x.P.funcs[f]? = some fn) (hb : fn.body.isSome = true)
    (hnm : (fn.name == "runtime.NumGoroutine") = false) (h : FnOk x.P f (args ++ lb) G H1 R)
    (kk : ∀ v G' H' w', R v G' H' → G.le G' → St c G' (H' ++ H) w' → K v w') : S x ⟨d, .call { callee := .value cl, args := as.toArray, argTypes := ats }, ty, pos, aft, g⟩ Q K E w := by
  intro a hA next hn
  have hargs := evals hA as args ha
  refine ⟨fun _ _ => trivial, ?_⟩
  rw [Oper.semAt_eq _ _ _ (fun c hc => by cases hc)]
  have hr : (execOp a.eval ⟨d, .call { callee := .value cl, args := as.toArray, argTypes := ats }, ty, pos, aft, g⟩).run x.P w = .ok (.enter f (args ++ lb).toArray) w := by
    have hbn : ¬ fn.body = none := by intro h0; rw [h0] at hb; cases hb
    have hnm' : ¬ fn.name = "runtime.NumGoroutine" := by simpa using hnm
    simp [execOp, resolve, Deferred.ofValue, hA.ev hc, invoke, callFunc, hfn, hnm', hbn, hargs]
  rw [hr]
  refine ⟨fun h => (by cases h), ?_⟩
  have hcall := h.call hs
  have h2 := (callsIn_wide (n := 0)).2 hcall
  have h3 := CallsIn.mono (F := RF x.r) (n := 0 - 1) (R := _) (R' := fun
      | .returned v, w'' => next (a.put d v) w''
      | .panicked chain, w'' => lift x.N Q (.panic chain) a w''
      | .outgrown, _ => LetsOut (lift x.N Q)) h2 (fun e w' he => by
    obtain ⟨v, G', H', rfl, hle, hs', hR⟩ := he
    exact hn _ _ (kk v G' H' w' hR hle hs'))
  exact h3

theorem S_makeMap {t : TypeId} (hs : St c G H w) (k : ∀ b w', St c G (.obj b (.map #[] 0) :: H) w' → K (.map (some b)) w') : S x ⟨d, .makeMap t none, ty, pos, aft, g⟩ Q K E w := by
  refine S_val rfl fun a _ => ⟨.map (some w.heap.size), w.alloc (.map #[] 0), ?_, k _ _ (hs.alloc _ ?_ (fun k hk => hk))⟩
  · simp only [execOp, Option.map_none, Sem.run_bind, run_makeMap_plain, Result.andThen]; simp
  · show (w.alloc _).heap[w.heap.size]? = _
    rw [heap_alloc_new]

/-- A new entry under an integer. -/
def mapE (k v : Value) (c : Nat) : MapEntry := { key := k, val := v, born := c }
theorem run_mapPutI {P : Program} {t kt et : TypeId} {kd : IntKind} {b clk : Nat} {es : List MapEntry} {n : Int} {v : Value} (hu : P.underlying t = some (.map kt et)) (hk : P.underlying kt = some (.int kd))
    (hb : w.heap[b]? = some (.map es.toArray clk)) (hf : Instr.findNow (.int kd) (.int kd n) es 0 = some none) :
    (Instr.mapUpdate t (.map (some b)) (.int kd n) v).run P w = .ok () (w.putObj b (.map (es ++ [mapE (.int kd n) v clk]).toArray (clk + 1))) := by
  have hc : (Instr.checkKey false 10000 kt (.int kd n)).run P w = .ok () w := MapKept.run_checkKey (k := .int kd n) hk (by simp [MapKept.IsKey]) false 9999
  simp [Instr.mapUpdate, run_underlying hu, MapKept.run_getObj_map hb, hc, MapKept.run_findKey hk hf, MapKept.run_setObj_map _ hb, Result.andThen, World.putObj, mapE]
theorem S_mapInsI {t kt et : TypeId} {kd : IntKind} {m kx vx : Operand} {b clk : Nat} {es : List MapEntry} {n : Int} {v : Value} (hs : St c G (.obj b (.map es.toArray clk) :: H) w) (hu : x.P.underlying t = some (.map kt et)) (hk : x.P.underlying kt = some (.int kd))
    (h1 : ev E m = some (.map (some b))) (h2 : ev E kx = some (.int kd n)) (h3 : ev E vx = some v) (hf : Instr.findNow (.int kd) (.int kd n) es 0 = some none)
    (k : ∀ w', St c G (.obj b (.map (es ++ [mapE (.int kd n) v clk]).toArray (clk + 1)) :: H) w' → K undef w') : S x ⟨d, .insert t m kx vx, ty, pos, aft, g⟩ Q K E w := by
  have hb : w.heap[b]? = some (.map es.toArray clk) := hs.hold (.obj b (.map es.toArray clk)) (by simp)
  have hr := run_mapPutI (P := x.P) (v := v) hu hk hb hf
  refine S_skip rfl fun a ha => ⟨w.putObj b (.map (es ++ [mapE (.int kd n) v clk]).toArray (clk + 1)), ?_, k _ (hs.write rfl rfl rfl (by simp) (fun k _ hk => World.putObj_heap_other hk) (World.putObj_heap_same (lt_of_get hb)) (fun k hk => .inl hk))⟩
  simp only [execOp, ha.ev h1, ha.ev h2, ha.ev h3]
  simp [hr]

theorem Y_lookupI {K : Value → Prop} {t kt et : TypeId} {kd : IntKind} {m kx : Operand} {b clk : Nat} {es : List MapEntry} {n : Int} {v : Value} {j : Nat} (i : Nat) (hi : H[i]? = some (.obj b (.map es.toArray clk))) (hu : x.P.underlying t = some (.map kt et)) (hk : x.P.underlying kt = some (.int kd))
    (h1 : ev E m = some (.map (some b))) (h2 : ev E kx = some (.int kd n)) (hf : Instr.findNow (.int kd) (.int kd n) es 0 = some (some (j, v))) (k : K v) : Y x (St c G H) ⟨d, .lookup t m kx false, ty, pos, aft, g⟩ E K :=
  Y_of (v := v) (fun a ha w hw => by
    have hb : w.heap[b]? = some (.map es.toArray clk) := hw.hold _ (List.mem_of_getElem? hi)
    have hc : (Instr.checkKey es.isEmpty 10000 kt (.int kd n)).run x.P w = .ok () w := MapKept.run_checkKey (k := .int kd n) hk (by simp [MapKept.IsKey]) _ 9999
    simp only [execOp, ha.ev h1, ha.ev h2]
    simp [Instr.lookup, run_underlying hu, MapKept.run_getObj_map hb, hc, MapKept.run_findKey hk hf, Result.andThen]) k

/-- What lies apart from a row that came in is the call's own. -/
theorem noMr {w0 : World} {G0 : Ghost} {r : Res} {e0 e k0 k1 n0 n : Nat} {v : Value} {xs0 xs : List Value} (i : Nat) (hs : St ⟨w0, G0, feet [.row e0 k0 v n0 xs0]⟩ G (r :: H) w) (hi : H[i]? = some (.row e k1 v n xs)) : ∀ k, r.foot k → ¬ (⟨w0, G0, feet [.row e0 k0 v n0 xs0]⟩ : Ctx).M k := by
  intro k hk hM
  obtain ⟨s, hs', hsk⟩ := hM
  obtain rfl : s = .row e0 k0 v n0 xs0 := by simpa using hs'
  exact (List.pairwise_cons.1 hs.apart).1 _ (List.mem_of_getElem? hi) k hk hsk
/-- The place of an element of a row of one's own, and what lies there. -/
theorem Y_idxOwn {K : Value → Prop} {o q : Operand} {t e e' : TypeId} {kd : IntKind} {n : Nat} {j : Int} {v u : Value} {xs : List Value} (i h : Nat) (hi : H[h]? = some (.row e' 1 v n xs)) (hu : x.P.underlying t = some (.slice e)) (hs : ∀ w, (sizeOf e).run x.P w = .ok 1 w)
    (h1 : ev E o = some v) (h2 : ev E q = some (.int kd j)) (hj : j = (i : Int)) (hlt : i < n) (hx : xs[i]? = some u) (hw0 : St c G H w)
    (k : ∀ p, (∀ w, St c G H w → w.cell? p = some u) → K (.pointer (some p))) : Y x (St c G H) ⟨d, .indexAddr t o q, ty, pos, aft, g⟩ E K := by
  subst hj
  have hform : ∃ b cap, v = .slice (some ⟨b, 0, none⟩) n cap := by
    have hr : w.ownsRow 0 e' 1 v n xs := hw0.hold (.row e' 1 v n xs) (List.mem_of_getElem? hi)
    rcases hr.2 with ⟨_, h0⟩ | ⟨b, cap, cur, rfl, _⟩
    · omega
    · exact ⟨b, cap, rfl⟩
  obtain ⟨b, cap, rfl⟩ := hform
  refine Y_of (v := .pointer (some ⟨b, i, none⟩)) (fun f hf w _ => ?_) (k _ fun w hw => ?_)
  · have ha : (⟨b, 0, none⟩ : Addr).add (i * 1) = ⟨b, i, none⟩ := by
      rw [Nat.mul_one]
      unfold Addr.add; split
      · rename_i h0; simp [h0]
      · simp
    simp [execOp, hf.ev h1, hf.ev h2, Instr.indexAt, asIntOf, run_underlying hu, hs w, hlt]
    rw [← Nat.mul_one i, ha, Nat.mul_one]
  · have hr : w.ownsRow 0 e' 1 (.slice (some ⟨b, 0, none⟩) n cap) n xs := hw.hold (.row e' 1 _ n xs) (List.mem_of_getElem? hi)
    rcases hr.2 with ⟨h0, _⟩ | ⟨b', cap', cur, h0, _, hh, _, _, _, htk⟩
    · cases h0
    · injection h0 with h1' h2' h3'
      injection h1' with h1'
      injection h1' with h1'
      subst h1'
      rw [Nat.mul_one] at htk
      rw [← htk, List.getElem?_take_of_lt hlt] at hx
      simpa [World.cell?, hh] using hx
/-- The length of a row of one's own. -/
theorem Y_lenOwn {K : Value → Prop} {o : Operand} {t e e' : TypeId} {n sz : Nat} {v : Value} {xs : List Value} (h : Nat) (hi : H[h]? = some (.row e' sz v n xs)) (hu : x.P.underlying t = some (.slice e)) (h1 : ev E o = some v) (hw0 : St c G H w)
    (k : K (.int .i64 (n : Int))) : Y x (St c G H) ⟨d, .call { callee := .builtin .len, args := #[o], argTypes := #[t] }, ty, pos, aft, g⟩ E K := by
  have hr : w.ownsRow 0 e' sz v n xs := hw0.hold (.row e' sz v n xs) (List.mem_of_getElem? hi)
  rcases hr.2 with ⟨rfl, rfl⟩ | ⟨b, cap, cur, rfl, _⟩
  · exact Y_len hu h1 k
  · exact Y_len hu h1 k
/-- A cell of one's own, by its place. -/
theorem Y_ldOwn {K : Value → Prop} {o : Operand} {t : Nat} {p : Addr} {v : Value} (hA : ∀ w, (isAgg t).run x.P w = .ok false w) (h : ev E o = some (.pointer (some p)))
    (hp : ∀ w, St c G H w → w.cell? p = some v) (k : K v) : Y x (St c G H) ⟨d, .load t o, ty, pos, aft, g⟩ E K :=
  Y_of (v := v) (fun a ha w hw => by
    have hc := hp w hw
    simp [execOp, ha.ev h, Instr.loadAt, Instr.sureAddr, loadVar, hA w, hc]) k
/-- A field of a struct that is a value. -/
theorem Y_field {W : World → Prop} {K : Value → Prop} {s i : Nat} {o : Operand} {v u : Value} (h : ev E o = some v) (hf : ∀ w, (Instr.field s v i).run x.P w = .ok u w) (k : K u) : Y x W ⟨d, .field s o i, ty, pos, aft, g⟩ E K :=
  Y_of (v := u) (fun a ha w _ => by simp [execOp, ha.ev h, hf w]) k
end

/-! ### a loop over a function whose body may leave it -/
@[reducible] def yx (J : Option Code → Env → World → Prop) : Exit → Env → World → Prop
  | .normal, E, w => J none E w
  | .ret, E, w => J (some .ret) E w
  | .exit id, E, w => J (some (.exit id)) E w
  | _, _, _ => False

theorem YieldOk.of_TX {P : Program} {G : Ghost} {N l : Nat} {rec : Loop} {args : List Value} {ps : List Nat} {L : List (Nat × Value)} {H : List Res} {R : Value → Ghost → List Res → Prop}
    (hA : Ag N ⟨[], L⟩ { tmps := rec.tmps, defers := [] }) (hps : rec.params = ps.toArray) (hn : args.length = ps.length) (hN : ∀ p ∈ ps, p < N) (hr : rec.state = .ready)
    (h : ∀ w0, St ⟨w0, G, feet (.obj l (.loop rec) :: H)⟩ G (.obj l (.loop rec) :: H) w0 →
      T ⟨P, N, some l⟩ rec.assign (nm fun E1 w1 => St ⟨w0, G, feet (.obj l (.loop rec) :: H)⟩ G (.obj l (.loop rec) :: H) w1 ∧
        ∀ w2, St ⟨w0, G, feet (.obj l (.loop rec) :: H)⟩ G (.obj l (.loop { rec with state := .busy }) :: H) w2 →
          T ⟨P, N, some l⟩ rec.body (yx fun j _ w3 => ∃ G3 H3, St ⟨w0, G, feet (.obj l (.loop rec) :: H)⟩ G3 (.obj l (.loop { rec with state := .busy }) :: H3) w3 ∧
            R (.bool j.isNone) G3 (.obj l (.loop { rec with state := if j.isNone then .ready else .done, pending := j }) :: H3)) E1 w2)
        ⟨[], (ps.zip args).reverse ++ L⟩ w0) : YieldOk P l args G (.obj l (.loop rec) :: H) R := by
  intro w hs
  have hl : w.heap[l]? = some (.loop rec) := hs.hold (.obj l (.loop rec)) (by simp)
  have hy := run_yield (P := P) (args := args.toArray) hl (by rw [hps]; simpa using hn)
  rw [hps] at hy
  refine ⟨_, _, _, _, hy, ?_⟩
  refine roundIn_of_wpIn (by trivial) ?_
  have hAp : Ag N ⟨[], (ps.zip args).reverse ++ L⟩ { tmps := (ps.zip args).foldl (fun t (p : Nat × Value) => t.setIfInBounds p.1 p.2) rec.tmps, defers := [] } :=
    Ag.params (ps.zip args) hA (fun p hp => hN _ (List.of_mem_zip hp).1)
  have h1 := h w hs _ hAp
  have e1 : (ps.toArray.zip args.toArray).foldl (fun tmps x => match x with | (t, a) => tmps.setIfInBounds t a) rec.tmps = (ps.zip args).foldl (fun t (p : Nat × Value) => t.setIfInBounds p.1 p.2) rec.tmps := by
    rw [List.zip_toArray, List.foldl_toArray]
  rw [e1]
  refine wpIn_mono h1 ?_
  rintro e a1 w1 ⟨E1, hE1, hq⟩
  cases e <;> try exact hq.elim
  obtain ⟨hs1, hb⟩ := hq
  have hl1 : w1.heap[l]? = some (.loop rec) := hs1.hold (.obj l (.loop rec)) (by simp)
  have hlt1 := lt_of_get hl1
  refine ⟨_, run_beginRound hl1 hr, ?_⟩
  have hs2 : St ⟨w, G, feet (.obj l (.loop rec) :: H)⟩ G (.obj l (.loop { rec with state := .busy }) :: H) (w1.putObj l (.loop { rec with state := .busy })) :=
    hs1.write rfl rfl rfl (by simp) (fun k _ hk => World.putObj_heap_other hk) (World.putObj_heap_same hlt1) (fun k hk => .inl hk)
  refine wpIn_mono (hb _ hs2 a1 hE1) ?_
  have fin : ∀ (j : Option Code) w3, (∃ G3 H3, St ⟨w, G, feet (.obj l (.loop rec) :: H)⟩ G3 (.obj l (.loop { rec with state := .busy }) :: H3) w3 ∧
            R (.bool j.isNone) G3 (.obj l (.loop { rec with state := if j.isNone then .ready else .done, pending := j }) :: H3)) →
      ∃ v w', (Instr.endRound l j).run P w3 = .ok v w' ∧ ∃ v' G' H', Ending.returned v = .returned v' ∧ St ⟨w, G, feet (.obj l (.loop rec) :: H)⟩ G' H' w' ∧ R v' G' H' := by
    rintro j w3 ⟨G3, H3, hs3, hR⟩
    have hl3 : w3.heap[l]? = some (.loop { rec with state := .busy }) := hs3.hold (.obj l (.loop { rec with state := .busy })) (by simp)
    refine ⟨_, _, run_endRound j hl3, .bool j.isNone, G3, _, rfl, ?_, hR⟩
    exact hs3.write rfl rfl rfl (by simp) (fun k _ hk => World.putObj_heap_other hk) (World.putObj_heap_same (lt_of_get hl3)) (fun k hk => .inl hk)
  rintro e a3 w3 ⟨E3, hE3, hq⟩
  cases e with
  | normal => exact fin none w3 hq
  | ret => exact fin (some .ret) w3 hq
  | exit id => exact fin (some (.exit id)) w3 hq
  | _ => exact hq.elim

theorem T_rangeFuncX {P : Program} {c : Ctx} {G : Ghost} {H : List Res} {w : World} {N gf : Nat} {E : Env} {g : Operand} {ps : Array Tmp} {assign body : Code} {Q : Exit → Env → World → Prop} {lb : List Value} {fn : Func} {H1 : List Res} {R : Option Code → Ghost → List Res → Prop}
    (hs : St c G (H1 ++ H) w) (hg : ev E g = some (.func (.func gf) #[] lb.toArray)) (hfn : P.funcs[gf]? = some fn) (hb : fn.body.isSome = true) (hnm : (fn.name == "runtime.NumGoroutine") = false)
    (hit : ∀ (l D : Nat) (rec : Loop), rec.params = ps → rec.assign = assign → rec.body = body → rec.state = .ready → rec.pending = none → Ag N ⟨[], E.l⟩ { tmps := rec.tmps, defers := [] } →
      FnOk P gf (.func (.yield l) #[] #[] :: lb) G (.obj l (.loop rec) :: .obj D (.deferred (some [])) :: H1) fun _ G' H' => ∃ H2 j st, H' = .obj l (.loop { rec with state := st, pending := j }) :: .obj D (.deferred (some [])) :: H2 ∧ st ≠ .busy ∧ R j G' H2)
    (kk : ∀ (l D : Nat) o j G' H2 w', R j G' H2 → G.le G' → St c G' (.obj D (.deferred (some [])) :: .obj l o :: (H2 ++ H)) w' →
      match j with
      | none => Q .normal ⟨{ target := .collected D, args := #[] } :: E.d, E.l⟩ w'
      | some c => T ⟨P, N, none⟩ c Q ⟨{ target := .collected D, args := #[] } :: E.d, E.l⟩ w') :
    T ⟨P, N, none⟩ (.rangeFunc g ps assign body) Q E w := by
  intro a hA
  refine wpIn_rangeFunc fun f _ => ?_
  obtain ⟨rec, hrec⟩ : ∃ rec : Loop, rec = { state := .ready, pending := none, fn := f, tmps := a.tmps, params := ps, assign, body, defers := w.heap.size } := ⟨_, rfl⟩
  have hs1 : St c G (.obj w.heap.size (.deferred (some [])) :: (H1 ++ H)) (w.alloc (.deferred (some []))) := hs.alloc _ (World.alloc_heap_new w _) (fun k hk => hk)
  have hs2 : St c G (.obj (w.heap.size + 1) (.loop rec) :: .obj w.heap.size (.deferred (some [])) :: (H1 ++ H)) ((w.alloc (.deferred (some []))).alloc (.loop rec)) := by
    have h0 : (w.alloc (.deferred (some []))).heap.size = w.heap.size + 1 := by simp
    refine hs1.alloc _ ?_ (fun k hk => by rw [h0]; exact hk)
    show ((w.alloc (.deferred (some []))).alloc (.loop rec)).heap[w.heap.size + 1]? = _
    rw [← h0]; exact World.alloc_heap_new _ _
  have hcall := (hit (w.heap.size + 1) w.heap.size rec (by rw [hrec]) (by rw [hrec]) (by rw [hrec]) (by rw [hrec]) (by rw [hrec]) (by rw [hrec]; exact ⟨hA.size, rfl, hA.look⟩)).call (H := H) hs2
  have hbn : ¬ fn.body = none := by intro h0; rw [h0] at hb; cases hb
  have hnm' : ¬ fn.name = "runtime.NumGoroutine" := by simpa using hnm
  obtain ⟨W1, hW1⟩ : ∃ W1, W1 = (w.alloc (.deferred (some []))).alloc (.loop rec) := ⟨_, rfl⟩
  rw [← hW1] at hcall
  refine ⟨w.heap.size + 1, [{ target := .collected w.heap.size, args := #[] }], W1, { target := .fn (.func gf) lb.toArray, args := #[.func (.yield (w.heap.size + 1)) #[] #[]] }, W1, gf,
    #[.func (.yield (w.heap.size + 1)) #[] #[]] ++ lb.toArray, W1, by rw [hW1, hrec]; exact run_enterLoop_outer _ _ _ _ _, ?_, fun _ _ => trivial, ?_, (fun h => by cases h), ?_⟩
  · simp only [resolve, hA.ev hg]
    simp [go_sem]
  · simp [invoke, callFunc, hfn, hnm', hbn, go_sem]
  · have h2 := (callsIn_wide (n := 0)).2 hcall
    have eA : (#[.func (.yield (w.heap.size + 1)) #[] #[]] ++ lb.toArray : Array Value) = (.func (.yield (w.heap.size + 1)) #[] #[] :: lb).toArray := by simp
    rw [eA]
    refine CallsIn.mono (F := RF none) (n := 0 - 1) h2 ?_
    rintro e w' ⟨v, G', H', rfl, hle, hs', H2, j, st, rfl, hst, hR⟩
    have hl : w'.heap[w.heap.size + 1]? = some (.loop { rec with state := st, pending := j }) := hs'.hold (.obj (w.heap.size + 1) (.loop { rec with state := st, pending := j })) (by simp)
    refine ⟨j, w'.putObj (w.heap.size + 1) (.loop { rec with state := .exhausted, pending := j }), by rw [run_endLoop (P := P) hl hst], ?_⟩
    have hs'' : St c G' (.obj (w.heap.size + 1) (.loop { rec with state := st, pending := j }) :: (.obj w.heap.size (.deferred (some [])) :: H2 ++ H)) w' := hs'
    have hs4 : St c G' (.obj (w.heap.size + 1) (.loop { rec with state := .exhausted, pending := j }) :: (.obj w.heap.size (.deferred (some [])) :: H2 ++ H)) (w'.putObj (w.heap.size + 1) (.loop { rec with state := .exhausted, pending := j })) :=
      hs''.write rfl rfl rfl (by simp) (fun k _ hk => World.putObj_heap_other hk) (World.putObj_heap_same (lt_of_get hl)) (fun k hk => .inl hk)
    have hs5 := hs4.front 1 rfl rfl
    have hAg : Ag N ⟨{ target := .collected w.heap.size, args := #[] } :: E.d, E.l⟩ { a with defers := [{ target := .collected w.heap.size, args := #[] }] ++ a.defers } := ⟨hA.size, by simp [hA.defs], hA.look⟩
    have hk := kk (w.heap.size + 1) w.heap.size _ j G' H2 _ hR hle (by simpa using hs5)
    cases j with
    | none => exact ⟨_, hAg, hk⟩
    | some c => exact hk _ hAg
end Go.Ex
