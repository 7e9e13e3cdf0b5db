/- A loop over a function, over the frame calculus: a call of yield, the round, the statement, the way out behind it. -/
import Derived.Test.YtcnljflihhggiaaGreatDoorExData
import Derived.RangeFuncLeaves
import Derived.RangeFuncRecord
import Derived.RangeFuncSeq
namespace Go.Ex
open Go Go.RowKit
variable {c : Ctx} {G G' : Ghost} {H H' : List Res} {w w' : World}

/-- The call of yield l with these arguments, what is named in G unchanging and H owned. -/
def YieldOk (P : Program) (l : Nat) (args : List Value) (G : Ghost) (H : List Res) (R : Value → Ghost → List Res → Prop) : Prop :=
  ∀ w, St ⟨w, G, feet H⟩ G H w → YieldAt (RF none) 0 P l args.toArray w fun e w' => ∃ v G' H', e = .returned v ∧ St ⟨w, G, feet H⟩ G' H' w' ∧ R v G' H'

theorem YieldAt.mono' {F : Fence} {m : Nat} {P : Program} {l : Nat} {args : Array Value} {W : World} {R R' : Ending → World → Prop} (h : YieldAt F m P l args W R) (hr : ∀ e w, R e w → R' e w) : YieldAt F m P l args W R' := by
  obtain ⟨fn, tmps, assign, body, h1, h2⟩ := h
  exact ⟨fn, tmps, assign, body, h1, h2.mono hr⟩

theorem YieldOk.call {P : Program} {l : Nat} {args : List Value} {H1 : List Res} {R : Value → Ghost → List Res → Prop} (h : YieldOk P l args G H1 R) (hs : St c G (H1 ++ H) w) :
    YieldAt (RF none) 0 P l args.toArray w fun e w' => ∃ v G' H', e = .returned v ∧ G.le G' ∧ St c G' (H' ++ H) w' ∧ R v G' H' := by
  have hpw := List.pairwise_append.1 hs.apart
  have h0 : St ⟨w, G, feet H1⟩ G H1 w := ⟨rfl, rfl, rfl, Nat.le_refl _, fun _ _ _ => rfl, Ghost.le.refl G, fun k o hk => .inl hk, hs.ghost, fun r hr => hs.hold r (List.mem_append_left _ hr),
    fun r hr k hk => ⟨(hs.off r (List.mem_append_left _ hr) k hk).1, .inr ⟨r, hr, hk⟩⟩, hpw.1⟩
  refine YieldAt.mono' (h w h0) fun e w' ⟨v, G', H', he, h', hR⟩ => ⟨v, G', H', he, h'.le, ?_, hR⟩
  refine St.step hs h'.os h'.tape h'.output h'.size (fun k hk hk' => h'.old k hk (fun ⟨r, hr, hrk⟩ => hk' r hr hrk)) h'.le h'.new (fun k o hk _ => h'.ghost k o hk) h'.hold ?_ h'.apart
  intro r hr k hk
  obtain ⟨h1, h2⟩ := h'.off r hr k hk
  exact ⟨h1, h2⟩

/-- The operation that calls yield. -/
theorem S_yield {P : Program} {N l : Nat} {E : Env} {g : Operand} {as : List Operand} {ats : Array TypeId} {args : List Value} {H1 : List Res} {R : Value → Ghost → List Res → Prop} {d : Option Tmp} {ty : TypeId} {pos : String} {aft : Array Edge} {gd : Option (Nat × Bool)}
    {Q : Exit → Env → World → Prop} {K : Value → World → Prop} (hs : St c G (H1 ++ H) w) (hg : ev E g = some (.func (.yield l) #[] #[])) (ha : as.map (ev E) = args.map some) (h : YieldOk P l args G H1 R)
    (kk : ∀ v G' H' w', R v G' H' → G.le G' → St c G' (H' ++ H) w' → K v w') : S ⟨P, N, none⟩ ⟨d, .call { callee := .value g, args := as.toArray, argTypes := ats }, ty, pos, aft, gd⟩ Q K E w := by
  intro a hA next hn
  have hargs : as.map a.eval = args := by
    have : ∀ (as : List Operand) (args : List Value), as.map (ev E) = args.map some → as.map a.eval = args := by
      intro as
      induction as with
      | nil => intro args h; cases args with
        | nil => rfl
        | cons _ _ => cases h
      | cons o as ih =>
        intro args h
        cases args with
        | nil => cases h
        | cons v args =>
          simp only [List.map_cons, List.cons.injEq] at h
          simp [hA.ev h.1, ih args h.2]
    exact this as args ha
  obtain ⟨fn, tmps, assign, body, hy, hR⟩ := h.call hs
  refine ⟨fun _ _ => trivial, ?_⟩
  rw [Oper.semAt_eq _ _ _ (fun c hc => by cases hc)]
  have hr : (execOp a.eval ⟨d, .call { callee := .value g, args := as.toArray, argTypes := ats }, ty, pos, aft, gd⟩).run P w = .ok (.round l fn tmps assign body) w := by
    simp [execOp, resolve, Deferred.ofValue, hA.ev hg, invoke, hargs, hy]
  rw [hr]
  refine ⟨fun h => (by cases h), ?_⟩
  refine RoundIn.mono hR ?_
  intro e w' he
  obtain ⟨v, G', H', rfl, hle, hs', hR⟩ := he
  exact hn _ _ (kk v G' H' w' hR hle hs')

@[reducible] def nm (K : Env → World → Prop) : Exit → Env → World → Prop
  | .normal, E, w => K E w
  | _, _, _ => False

/-- The parameters of a round. -/
theorem Ag.params {N : Nat} : ∀ (ps : List (Nat × Value)) {L : List (Nat × Value)} {t : Array Value}, Ag N ⟨[], L⟩ { tmps := t, defers := [] } → (∀ p ∈ ps, p.1 < N) →
    Ag N ⟨[], ps.reverse ++ L⟩ { tmps := ps.foldl (fun t (p : Nat × Value) => t.setIfInBounds p.1 p.2) t, defers := [] }
  | [], L, t, h, _ => h
  | (p, v) :: ps, L, t, h, hp => by
    have h1 := h.put (some p) v (fun q hq => by cases hq; exact hp (p, v) (by simp))
    have h2 := Ag.params ps (L := (p, v) :: L) (t := t.setIfInBounds p v) h1 (fun q hq => hp q (by simp [hq]))
    simpa using h2

/-- A round, out of the walks of what it assigns and of its body. -/
theorem YieldOk.of_T {P : Program} {N l : Nat} {rec : Loop} {args : List Value} {ps : List Nat} {L : List (Nat × Value)} {H : List Res} {R : Value → Ghost → List Res → Prop}
    (hA : Ag N ⟨[], L⟩ { tmps := rec.tmps, defers := [] }) (hps : rec.params = ps.toArray) (hn : args.length = ps.length) (hN : ∀ p ∈ ps, p < N) (hr : rec.state = .ready)
    (h : ∀ w0, St ⟨w0, G, feet (.obj l (.loop rec) :: H)⟩ G (.obj l (.loop rec) :: H) w0 →
      T ⟨P, N, some l⟩ rec.assign (nm fun E1 w1 => St ⟨w0, G, feet (.obj l (.loop rec) :: H)⟩ G (.obj l (.loop rec) :: H) w1 ∧
        ∀ w2, St ⟨w0, G, feet (.obj l (.loop rec) :: H)⟩ G (.obj l (.loop { rec with state := .busy }) :: H) w2 →
          T ⟨P, N, some l⟩ rec.body (nm fun _ w3 => ∃ G3 H3, St ⟨w0, G, feet (.obj l (.loop rec) :: H)⟩ G3 (.obj l (.loop { rec with state := .busy }) :: H3) w3 ∧ R (.bool true) G3 (.obj l (.loop { rec with state := .ready, pending := none }) :: H3)) E1 w2)
        ⟨[], (ps.zip args).reverse ++ L⟩ w0) : YieldOk P l args G (.obj l (.loop rec) :: H) R := by
  intro w hs
  have hl : w.heap[l]? = some (.loop rec) := hs.hold (.obj l (.loop rec)) (by simp)
  have hy := run_yield (P := P) (args := args.toArray) hl (by rw [hps]; simpa using hn)
  rw [hps] at hy
  refine ⟨_, _, _, _, hy, ?_⟩
  refine roundIn_of_wpIn (by trivial) ?_
  have hAp : Ag N ⟨[], (ps.zip args).reverse ++ L⟩ { tmps := (ps.zip args).foldl (fun t (p : Nat × Value) => t.setIfInBounds p.1 p.2) rec.tmps, defers := [] } :=
    Ag.params (ps.zip args) hA (fun p hp => hN _ (List.of_mem_zip hp).1)
  have h1 := h w hs _ hAp
  have e1 : (ps.toArray.zip args.toArray).foldl (fun tmps x => match x with | (t, a) => tmps.setIfInBounds t a) rec.tmps = (ps.zip args).foldl (fun t (p : Nat × Value) => t.setIfInBounds p.1 p.2) rec.tmps := by
    rw [List.zip_toArray, List.foldl_toArray]
  rw [e1]
  refine wpIn_mono h1 ?_
  rintro e a1 w1 ⟨E1, hE1, hq⟩
  cases e <;> try exact hq.elim
  obtain ⟨hs1, hb⟩ := hq
  have hl1 : w1.heap[l]? = some (.loop rec) := hs1.hold (.obj l (.loop rec)) (by simp)
  have hlt1 := lt_of_get hl1
  refine ⟨_, run_beginRound hl1 hr, ?_⟩
  have hs2 : St ⟨w, G, feet (.obj l (.loop rec) :: H)⟩ G (.obj l (.loop { rec with state := .busy }) :: H) (w1.putObj l (.loop { rec with state := .busy })) :=
    hs1.write rfl rfl rfl (by simp) (fun k _ hk => World.putObj_heap_other hk) (World.putObj_heap_same hlt1) (fun k hk => .inl hk)
  refine wpIn_mono (hb _ hs2 a1 hE1) ?_
  rintro e a3 w3 ⟨E3, hE3, hq⟩
  cases e <;> try exact hq.elim
  obtain ⟨G3, H3, hs3, hR⟩ := hq
  have hl3 : w3.heap[l]? = some (.loop { rec with state := .busy }) := hs3.hold (.obj l (.loop { rec with state := .busy })) (by simp)
  refine ⟨_, _, run_endRound none hl3, .bool true, G3, _, rfl, ?_, hR⟩
  exact hs3.write rfl rfl rfl (by simp) (fun k _ hk => World.putObj_heap_other hk) (World.putObj_heap_same (lt_of_get hl3)) (fun k hk => .inl hk)

/-- The statement. -/
theorem T_rangeFunc {P : Program} {N gf : Nat} {E : Env} {g : Operand} {ps : Array Tmp} {assign body : Code} {Q : Exit → Env → World → Prop} {lb : List Value} {fn : Func} {H1 : List Res} {R : Ghost → List Res → Prop}
    (hs : St c G (H1 ++ H) w) (hg : ev E g = some (.func (.func gf) #[] lb.toArray)) (hfn : P.funcs[gf]? = some fn) (hb : fn.body.isSome = true) (hnm : (fn.name == "runtime.NumGoroutine") = false)
    (hit : ∀ (l D : Nat) (rec : Loop), rec.params = ps → rec.assign = assign → rec.body = body → rec.state = .ready → rec.pending = none → Ag N ⟨[], E.l⟩ { tmps := rec.tmps, defers := [] } →
      FnOk P gf (.func (.yield l) #[] #[] :: lb) G (.obj l (.loop rec) :: .obj D (.deferred (some [])) :: H1) fun _ G' H' => ∃ H2, H' = .obj l (.loop rec) :: .obj D (.deferred (some [])) :: H2 ∧ R G' H2)
    (kk : ∀ (l D : Nat) o G' H2 w', R G' H2 → G.le G' → St c G' (.obj D (.deferred (some [])) :: .obj l o :: (H2 ++ H)) w' → Q .normal ⟨{ target := .collected D, args := #[] } :: E.d, E.l⟩ w') :
    T ⟨P, N, none⟩ (.rangeFunc g ps assign body) Q E w := by
  intro a hA
  refine wpIn_rangeFunc fun f _ => ?_
  obtain ⟨rec, hrec⟩ : ∃ rec : Loop, rec = { state := .ready, pending := none, fn := f, tmps := a.tmps, params := ps, assign, body, defers := w.heap.size } := ⟨_, rfl⟩
  have hs1 : St c G (.obj w.heap.size (.deferred (some [])) :: (H1 ++ H)) (w.alloc (.deferred (some []))) := hs.alloc _ (World.alloc_heap_new w _) (fun k hk => hk)
  have hs2 : St c G (.obj (w.heap.size + 1) (.loop rec) :: .obj w.heap.size (.deferred (some [])) :: (H1 ++ H)) ((w.alloc (.deferred (some []))).alloc (.loop rec)) := by
    have h0 : (w.alloc (.deferred (some []))).heap.size = w.heap.size + 1 := by simp
    refine hs1.alloc _ ?_ (fun k hk => by rw [h0]; exact hk)
    show ((w.alloc (.deferred (some []))).alloc (.loop rec)).heap[w.heap.size + 1]? = _
    rw [← h0]; exact World.alloc_heap_new _ _
  have hcall := (hit (w.heap.size + 1) w.heap.size rec (by rw [hrec]) (by rw [hrec]) (by rw [hrec]) (by rw [hrec]) (by rw [hrec]) (by rw [hrec]; exact ⟨hA.size, rfl, hA.look⟩)).call (H := H) hs2
  have hbn : ¬ fn.body = none := by intro h0; rw [h0] at hb; cases hb
  have hnm' : ¬ fn.name = "runtime.NumGoroutine" := by simpa using hnm
  obtain ⟨W1, hW1⟩ : ∃ W1, W1 = (w.alloc (.deferred (some []))).alloc (.loop rec) := ⟨_, rfl⟩
  rw [← hW1] at hcall
  refine ⟨w.heap.size + 1, [{ target := .collected w.heap.size, args := #[] }], W1, { target := .fn (.func gf) lb.toArray, args := #[.func (.yield (w.heap.size + 1)) #[] #[]] }, W1, gf,
    #[.func (.yield (w.heap.size + 1)) #[] #[]] ++ lb.toArray, W1, by rw [hW1, hrec]; exact run_enterLoop_outer _ _ _ _ _, ?_, fun _ _ => trivial, ?_, (fun h => by cases h), ?_⟩
  · simp only [resolve, hA.ev hg]
    simp [go_sem]
  · simp [invoke, callFunc, hfn, hnm', hbn, go_sem]
  · have h2 := (callsIn_wide (n := 0)).2 hcall
    have eA : (#[.func (.yield (w.heap.size + 1)) #[] #[]] ++ lb.toArray : Array Value) = (.func (.yield (w.heap.size + 1)) #[] #[] :: lb).toArray := by simp
    rw [eA]
    refine CallsIn.mono (F := RF none) (n := 0 - 1) h2 ?_
    rintro e w' ⟨v, G', H', rfl, hle, hs', H2, rfl, hR⟩
    have hl : w'.heap[w.heap.size + 1]? = some (.loop rec) := hs'.hold (.obj (w.heap.size + 1) (.loop rec)) (by simp)
    refine ⟨none, w'.putObj (w.heap.size + 1) (.loop { rec with state := .exhausted }), by rw [run_endLoop (P := P) hl (by rw [hrec]; simp), show rec.pending = none by rw [hrec]], ?_⟩
    have hs'' : St c G' (.obj (w.heap.size + 1) (.loop rec) :: (.obj w.heap.size (.deferred (some [])) :: H2 ++ H)) w' := hs'
    have hs4 : St c G' (.obj (w.heap.size + 1) (.loop { rec with state := .exhausted }) :: (.obj w.heap.size (.deferred (some [])) :: H2 ++ H)) (w'.putObj (w.heap.size + 1) (.loop { rec with state := .exhausted })) :=
      hs''.write rfl rfl rfl (by simp) (fun k _ hk => World.putObj_heap_other hk) (World.putObj_heap_same (lt_of_get hl)) (fun k hk => .inl hk)
    have hs5 := hs4.front 1 rfl rfl
    exact ⟨⟨{ target := .collected w.heap.size, args := #[] } :: E.d, E.l⟩, ⟨hA.size, by simp [hA.defs], hA.look⟩, kk _ _ _ G' H2 _ hR hle (by simpa using hs5)⟩

/-- The way out of a body that may have ranged over functions: the marks are come to. -/
def Marks : List Deferred → World → World → Prop
  | [], w, w' => w' = w
  | d :: ds, w, w' => ∃ D, d = { target := .collected D, args := #[] } ∧ w.heap[D]? = some (.deferred (some [])) ∧ Marks ds (w.putObj D (.deferred none)) w'
def RtM (P : Program) (N : Nat) (fn : Func) (R : Value → World → Prop) : Exit → Env → World → Prop
  | .normal, E, w | .ret, E, w => ∃ w', Marks E.d w w' ∧ ∃ v, (∀ a, Ag N E a → (results fn a.tmps).run P w' = .ok v w') ∧ R v w'
  | _, _, _ => False

theorem leaves_marks {P : Program} {fn : Func} {tmps : Array Value} {R : Ending → World → Prop} {v : Value} : ∀ (ds : List Deferred) (w w' : World), Marks ds w w' → (results fn tmps).run P w' = .ok v w' → R (.returned v) w' →
    LeavesInM (RF none) 0 P fn tmps R ds .returning w
  | [], w, w', h, hr, hR => by
    obtain rfl : w' = w := h
    exact ⟨v, hr, hR⟩
  | d :: ds, w, w', ⟨D, hd, hD, hm⟩, hr, hR => ⟨by simp, .inl ⟨D, _, by rw [hd], run_takeDeferred hD, leaves_marks ds _ w' hm hr hR⟩⟩

theorem calls_of_TM {P : Program} {f : FuncId} {fn : Func} {N : Nat} {c : Code} {args : List Value} {w : World} {R : Value → World → Prop} {L : List (Nat × Value)}
    (hf : P.funcs[f]? = some fn) (hb : fn.body = some c) (hN : fn.ntmps = N) (hn : args.length ≤ N) (hL : enumL 0 args = L)
    (h : T ⟨P, N, none⟩ c (RtM P N fn R) ⟨[], L⟩ w) : Calls P f args.toArray w fun e w' => ∃ v, e = .returned v ∧ R v w' := by
  subst hL
  refine (callsIn_wide (n := 0)).1 (callsIn_of_wp_marks hf hb trivial ?_ rfl)
  have ha : Ag N ⟨[], enumL 0 args⟩ { tmps := args.toArray ++ Array.replicate (fn.ntmps - args.toArray.size) undef, defers := [] } := by
    refine ⟨by simp [hN]; omega, rfl, fun t v ht => ?_⟩
    obtain ⟨_, h2⟩ := enumL_get args 0 t v ht
    have hlt : t < args.length := by
      rcases Nat.lt_or_ge t args.length with h' | h'
      · exact h'
      · rw [List.getElem?_eq_none (by omega)] at h2; cases h2
    rw [Array.getElem?_append_left (by simpa using hlt)]
    simpa using h2
  refine wpIn_mono (h _ ha) ?_
  rintro e a' w' ⟨E, hE, hq⟩
  cases e <;> simp only [RtM] at hq <;> try exact hq.elim
  all_goals
    obtain ⟨w2, hd, v, hv, hR⟩ := hq
    have := leaves_marks (R := fun e w' => ∃ v, e = .returned v ∧ R v w') _ _ _ hd (hv a' hE) ⟨v, rfl, hR⟩
    rw [← hE.defs] at this
    exact this

theorem FnOk.of_TM {P : Program} {f : FuncId} {fn : Func} {N : Nat} {c : Code} {args : List Value} {G : Ghost} {H : List Res} {R : Value → Ghost → List Res → Prop} (L : List (Nat × Value))
    (hf : P.funcs[f]? = some fn) (hb : fn.body = some c) (hN : fn.ntmps = N) (hn : args.length ≤ N) (hL : enumL 0 args = L)
    (h : ∀ w, St ⟨w, G, feet H⟩ G H w → T ⟨P, N, none⟩ c (RtM P N fn fun v w' => ∃ G' H', St ⟨w, G, feet H⟩ G' H' w' ∧ R v G' H') ⟨[], L⟩ w) : FnOk P f args G H R := fun w hw =>
  (calls_of_TM hf hb hN hn hL (h w hw)).mono fun _ _ ⟨v, he, G', H', hs, hR⟩ => ⟨v, G', H', he, hs, hR⟩

/-- The end of a body behind one loop over a function. -/
theorem RtM_fin {P : Program} {N D : Nat} {E : Env} {w : World} {fn : Func} {rs : List ResultVar} {vs : List Value} {R : Value → World → Prop} (hs : St c G (.obj D (.deferred (some [])) :: H) w) (hr : fn.results = rs.toArray)
    (hd : E.d = [{ target := .collected D, args := #[] }]) (h : ∀ w', St c G H w' → All2 (ResOk P E w') rs vs ∧ R (tup vs) w') : RtM P N fn R .ret E w := by
  have hD : w.heap[D]? = some (.deferred (some [])) := hs.hold (.obj D (.deferred (some []))) (by simp)
  have h2 : St c G (.obj D (.deferred none) :: H) (w.putObj D (.deferred none)) :=
    hs.write rfl rfl rfl (by simp) (fun k _ hk => World.putObj_heap_other hk) (World.putObj_heap_same (lt_of_get hD)) (fun k hk => .inl hk)
  obtain ⟨h3, h4⟩ := h _ h2.drop
  exact ⟨_, by rw [hd]; exact ⟨D, rfl, hD, rfl⟩, _, results_run hr h3, h4⟩

/-- A closure over variables. -/
theorem Y_makeFunc {x : Cx} {W : World → Prop} {E : Env} {K : Value → Prop} {d : Option Tmp} {ty : TypeId} {pos : String} {aft : Array Edge} {g : Option (Nat × Bool)} {f : FuncId} {caps : List Operand} {vs : List Value}
    (h : caps.map (ev E) = vs.map some) (k : K (.func (.func f) #[] vs.toArray)) : Y x W ⟨d, .makeFunc (.func f) #[] caps.toArray, ty, pos, aft, g⟩ E K :=
  Y_of (v := .func (.func f) #[] vs.toArray) (fun a ha w _ => by
    have : ∀ (as : List Operand) (args : List Value), as.map (ev E) = args.map some → as.map a.eval = args := by
      intro as
      induction as with
      | nil => intro args h; cases args with
        | nil => rfl
        | cons _ _ => cases h
      | cons o as ih =>
        intro args h
        cases args with
        | nil => cases h
        | cons v args =>
          simp only [List.map_cons, List.cons.injEq] at h
          simp [ha.ev h.1, ih args h.2]
    simp [execOp, Instr.makeFunc, this caps vs h]) k

/-- What lies at a variable that no longer changes. -/
def Cell (G : Ghost) (b : Nat) (v : Value) : Prop := gcell G ⟨b, 0, none⟩ = some v
theorem Cell.mono {G G' : Ghost} (h : G.le G') {b : Nat} {v : Value} (hc : Cell G b v) : Cell G' b v := gcell_mono h hc
theorem St.fixBlk {b e : Nat} {cs : List Value} (hs : St c G (.blk b e cs :: H) w) (hM : ∀ k, (Res.blk b e cs).foot k → ¬ c.M k) : ∃ G', G.le G' ∧ (∀ (i : Nat) (v : Value), cs[i]? = some v → gcell G' ⟨b, i, none⟩ = some v) ∧ St c G' H w := by
  obtain ⟨G', h1, h2, h3⟩ := hs.freeze hM
  refine ⟨G', h1, fun i v hv => ?_, h3⟩
  have h4 : G' b = some (.cells cs.toArray e (0, 0)) := (h2 b rfl).trans (hs.hold (.blk b e cs) (by simp))
  simp [gcell, h4, hv]
theorem noMb {w : World} {G : Ghost} : ∀ k, ¬ (⟨w, G, feet []⟩ : Ctx).M k := fun _ h => by
  obtain ⟨r, hr, _⟩ := h
  cases hr
/-- What lies apart from all that came in is the call's own. -/
theorem noMh {w0 : World} {G0 : Ghost} {r : Res} {H0 : List Res} (hs : St ⟨w0, G0, feet H0⟩ G (r :: H) w) (h : All2 (fun s s' : Res => ∀ k, s.foot k → s'.foot k) H0 H) : ∀ k, r.foot k → ¬ (⟨w0, G0, feet H0⟩ : Ctx).M k := by
  intro k hk ⟨s, hs', hsk⟩
  have key : ∀ (H0 H : List Res), All2 (fun s s' : Res => ∀ k, s.foot k → s'.foot k) H0 H → s ∈ H0 → ∃ s' ∈ H, s'.foot k := by
    intro H0
    induction H0 with
    | nil => intro H _ h; cases h
    | cons a H0 ih =>
      intro H h hm
      cases H with
      | nil => exact h.elim
      | cons b H =>
        rcases List.mem_cons.1 hm with rfl | hm
        · exact ⟨b, by simp, h.1 k hsk⟩
        · obtain ⟨s', h1, h2⟩ := ih H h.2 hm
          exact ⟨s', by simp [h1], h2⟩
  obtain ⟨s', h1, h2⟩ := key H0 H h hs'
  exact (List.pairwise_cons.1 hs.apart).1 _ h1 k hk h2

section
variable {x : Cx} {Q : Exit → Env → World → Prop} {E : Env} {K : Value → World → Prop} {d : Option Tmp} {ty : TypeId} {pos : String} {aft : Array Edge} {g : Option (Nat × Bool)}
/-- '[]byte("..")' of a constant: the literal is marked, and never changes from now on. -/
theorem S_mark {t e : TypeId} {o : Operand} {n : Nat} {v : Value} {xs : List Value} (hs : St c G (.row e 1 v n xs :: H) w) (hv : ∃ b, v = .slice (some ⟨b, 0, none⟩) n n) (ho : ev E o = some v) (ht : x.P.underlying t = some (.slice e)) (he : x.P.underlying e = some (.int .u8))
    (hM : ∀ b, v.ownBlock = some b → ¬ c.M b) (kk : ∀ G' w', G.le G' → Sl G' v 1 n xs → St c G' H w' → K v w') : S x ⟨d, .convert t t o, ty, pos, aft, g⟩ Q K E w := by
  obtain ⟨b, rfl⟩ := hv
  have hown : w.ownsRow 0 e 1 (.slice (some ⟨b, 0, none⟩) n n) n xs := hs.hold (.row e 1 _ n xs) (by simp)
  rcases hown.2 with ⟨h, _⟩ | ⟨g', cp, cur, h, h0, hh, hnc, hcm, hsz, htk⟩
  · cases h
  injection h with h1 h2 h3
  injection h1 with h1
  injection h1 with h1
  subst h1 h3
  have hcur : cur = xs.toArray := by
    apply Array.ext'
    rw [← htk, ← hsz, ← Array.length_toList, List.take_length]
  subst hcur
  have hlt := lt_of_get hh
  have hw' : (w.freeze ⟨b, xs.toArray.size, none⟩ 1).heap[b]? = some (.cells xs.toArray e (xs.toArray.size, xs.toArray.size + 1)) := by
    unfold World.freeze
    rw [if_neg (by decide)]
    show (w.heap.modify b _)[b]? = _
    rw [Array.getElem?_modify]
    simp [hh]
  have hs1 : St c G (.obj b (.cells xs.toArray e (xs.toArray.size, xs.toArray.size + 1)) :: H) (w.freeze ⟨b, xs.toArray.size, none⟩ 1) := by
    refine hs.write ?_ ?_ ?_ ?_ ?_ hw' ?_
    · unfold World.freeze; rw [if_neg (by decide)]
    · unfold World.freeze; rw [if_neg (by decide)]
    · unfold World.freeze; rw [if_neg (by decide)]
    · unfold World.freeze; rw [if_neg (by decide)]; simp
    · intro k hk hf
      have hne : b ≠ k := fun e => hf (by simp [Res.foot, Value.ownBlock, e])
      unfold World.freeze; rw [if_neg (by decide)]
      show (w.heap.modify b _)[k]? = _
      rw [Array.getElem?_modify, if_neg hne]
    · intro k hk
      exact .inl (by have : k = b := hk; simp [Res.foot, Value.ownBlock, this])
  obtain ⟨G', hG, hg, hs2⟩ := hs1.freeze (fun k hk => hM k (by have : k = b := hk; simp [Value.ownBlock, this]))
  refine S_val rfl fun a ha => ⟨.slice (some ⟨b, 0, none⟩) n n, _, ?_, kk _ _ hG ?_ hs2⟩
  · have hsh : w.shape? b = some (e, xs.toArray.size) := by unfold World.shape?; rw [hh]
    simp [execOp, ha.ev ho, convert, run_underlying ht, run_underlying he, markStringish, hsh]
  · exact Sl.of_blk ((hg b rfl).trans hw') hown.1 hcm

/-- make, of elements of one cell. -/
theorem S_make {o p : Operand} {t e : TypeId} {kd kd' : IntKind} {u : Value} {bytes n m : Nat} (hs : St c G H w) (ht : x.P.underlying t = some (.slice e)) (hi : TI x.P e u 1 bytes) (hu : u.cells = #[u])
    (ho : ev E o = some (.int kd (n : Int))) (hp : ev E p = some (.int kd' (m : Int))) (hnm : n ≤ m) (hb : bytes * m ≤ 281474976710656) (hm : m ≤ 281474976710656)
    (kk : ∀ b w', St c G (.row e 1 (.slice (some ⟨b, 0, none⟩) n m) n (List.replicate n u) :: H) w' → K (.slice (some ⟨b, 0, none⟩) n m) w') : S x ⟨d, .makeSlice t o p, ty, pos, aft, g⟩ Q K E w := by
  obtain ⟨i, hi, hz, hik, hib⟩ := hi
  have hr := run_make (P := x.P) w t e i u ht hi hz kd kd' (n : Int) (m : Int) (by omega) (by omega) (by
    rw [hib]
    have h : ((bytes * m : Nat) : Int) ≤ 281474976710656 := by omega
    rwa [Int.natCast_mul] at h) (by omega)
  simp only [Int.toNat_natCast, hik, Nat.mul_one] at hr
  have hmc : (madeCells u.cells m).toList = List.replicate m u := by
    rw [hu]
    apply List.ext_getElem
    · simp [madeCells]
    · intro j h1 h2
      have hj : j < m := by simpa using h2
      simp [madeCells, Nat.mod_one]
  have hrow : Res.holds (w.alloc (.cells (madeCells u.cells m) e)) (.row e 1 (.slice (some ⟨w.heap.size, 0, none⟩) n m) n (List.replicate n u)) := by
    refine ⟨by simp, .inr ⟨_, _, _, rfl, Nat.zero_le _, heap_alloc_new w _, hnm, by unfold maxLen; omega, by rw [size_madeCells, Nat.mul_one], ?_⟩⟩
    rw [hmc, Nat.mul_one, List.take_replicate, Nat.min_eq_left hnm]
  refine S_val rfl fun a ha => ⟨_, _, ?_, kk w.heap.size _ (hs.alloc _ hrow (fun j hj => by
    have : w.heap.size = j := by simpa [Res.foot, Value.ownBlock] using hj
    exact this.symm))⟩
  simp only [execOp, ha.ev ho, ha.ev hp]
  simp [hr]
end
end Go.Ex
