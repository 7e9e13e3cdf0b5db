/- A function that defers a closure which recovers. -/
import Derived.Test.YtcnljflihhggiaaGreatDoorExPanic
namespace Go.Ex
open Go Go.RowKit

theorem ResOk_cell1 {P : Program} {E : Env} {w : World} {c : Ctx} {G : Ghost} {H : List Res} {a b e : Nat} {ty : TypeId} {v : Value} (i : Nat) (hs : St c G H w) (hA : ∀ w, (isAgg ty).run P w = .ok false w)
    (h : eget E.l a = some (.pointer (some ⟨b, 0, none⟩))) (hi : H[i]? = some (.blk b e [v])) : ResOk P E w (.cell a ty) v := by
  refine ⟨_, h, ?_⟩
  have hb : w.heap[b]? = some (.cells #[v] e (0, 0)) := hs.hold _ (List.mem_of_getElem? hi)
  have hc : w.cell? ⟨b, 0, none⟩ = some v := by simp [World.cell?, hb]
  simp [loadVar, hA w, hc]

/-- What a body must come to, where one deferred call is still to be made. -/
def RtD (P : Program) (N : Nat) (fn : Func) (R : Value → World → Prop) : Exit → Env → World → Prop
  | .normal, E, w | .ret, E, w => ∀ a, Ag N E a → LeavesIn (RF none) 0 P fn a.tmps (fun e w' => ∃ v, e = .returned v ∧ R v w') E.d .returning w
  | .panic ch, E, w => ∀ a, Ag N E a → LeavesIn (RF none) 0 P fn a.tmps (fun e w' => ∃ v, e = .returned v ∧ R v w') E.d (.panicking ch) w
  | _, _, _ => False

theorem FnOk.of_TD {P : Program} {f : FuncId} {fn : Func} {N : Nat} {c : Code} {args : List Value} {G : Ghost} {H : List Res} {R : Value → Ghost → List Res → Prop} (L : List (Nat × Value))
    (hf : P.funcs[f]? = some fn) (hb : fn.body = some c) (hN : fn.ntmps = N) (hn : args.length ≤ N) (hL : enumL 0 args = L)
    (h : ∀ w, St ⟨w, G, feet H⟩ G H w → T ⟨P, N, none⟩ c (RtD P N fn fun v w' => ∃ G' H', St ⟨w, G, feet H⟩ G' H' w' ∧ R v G' H') ⟨[], L⟩ w) : FnOk P f args G H R := by
  intro wS hw
  subst hL
  refine (callsIn_wide (n := 0)).1 (callsIn_of_wp_defers (F := Fence.wide) (n := 0) hf hb trivial ?_ rfl)
  have ha : Ag N ⟨[], enumL 0 args⟩ { tmps := args.toArray ++ Array.replicate (fn.ntmps - args.toArray.size) undef, defers := [] } := by
    refine ⟨by simp [hN]; omega, rfl, fun t v ht => ?_⟩
    obtain ⟨_, h2⟩ := enumL_get args 0 t v ht
    have hlt : t < args.length := by
      rcases Nat.lt_or_ge t args.length with h' | h'
      · exact h'
      · rw [List.getElem?_eq_none (by omega)] at h2; cases h2
    rw [Array.getElem?_append_left (by simpa using hlt)]
    simpa using h2
  refine wpIn_mono (h wS hw _ ha) ?_
  rintro e a' w' ⟨E, hE, hq⟩
  cases e <;> simp only [RtD] at hq <;> try exact hq.elim
  all_goals
    have hl := hq a' hE
    rw [← hE.defs] at hl
    have mono : ∀ (ds : List Deferred) (u : FrameMode) (w : World), LeavesIn (RF none) 0 P fn a'.tmps (fun e w'' => ∃ v, e = .returned v ∧ ∃ G' H', St ⟨wS, G, feet H⟩ G' H' w'' ∧ R v G' H') ds u w → LeavesIn Fence.wide 0 P fn a'.tmps (fun e w'' => ∃ v G' H', e = .returned v ∧ St ⟨wS, G, feet H⟩ G' H' w'' ∧ R v G' H') ds u w := by
      intro ds
      induction ds with
      | nil =>
        intro u w hl
        cases u with
        | run => exact hl.elim
        | returning => obtain ⟨v, h1, y, h2, G', H', h3, h4⟩ := hl; exact ⟨v, h1, y, G', H', h2, h3, h4⟩
        | panicking ch => obtain ⟨y, h2, G', H', h3, h4⟩ := hl; exact ⟨y, G', H', h2, h3, h4⟩
      | cons d ds ih =>
        intro u w hl
        obtain ⟨h1, h2, fv, cap, f', args', h3, h4, h5, h6⟩ := hl
        refine ⟨h1, h2, fv, cap, f', args', h3, h4, h5, CallsDIn.mono h6 fun e u' w' hr => ?_⟩
        cases e with
        | returned v => exact ih _ _ hr
        | panicked ch => exact ih _ _ hr
        | outgrown => obtain ⟨y, h2, _⟩ := hr; cases h2
    exact mono _ _ _ hl

section
variable {x : Cx} {Q : Exit → Env → World → Prop} {w : World} {ty : TypeId} {pos : String} {aft : Array Edge}
/-- defer of a closure. -/
theorem O_defer {ops : Array Oper} {l : List Oper} {D : List Deferred} {L : List (Nat × Value)} {cl : Operand} {as : List Operand} {ats : Array TypeId} {args lb : List Value} {f : FuncId} (hx : x.r = none) (hc : ev ⟨D, L⟩ cl = some (.func (.func f) #[] lb.toArray))
    (ha : as.map (ev ⟨D, L⟩) = args.map some) (h : O x ops Q l ⟨{ target := .fn (.func f) lb.toArray, args := args.toArray } :: D, L⟩ w) :
    O x ops Q (⟨none, .defer { callee := .value cl, args := as.toArray, argTypes := ats }, ty, pos, aft, none⟩ :: l) ⟨D, L⟩ w := by
  intro hd a hA
  have hargs := evals hA as args ha
  refine wpListIn_plain rfl fun K hK => ?_
  refine ⟨fun _ _ => trivial, ?_⟩
  rw [hx]
  show Oper.uponIn _ _ _ _ _ _ _ ((Oper.semAt none _ _).run _ _)
  rw [Oper.semAt_none]
  have hr : (execOp a.eval ⟨none, .defer { callee := .value cl, args := as.toArray, argTypes := ats }, ty, pos, aft, none⟩).run x.P w = .ok (.defer { target := .fn (.func f) lb.toArray, args := args.toArray }) w := by
    simp [execOp, resolve, Deferred.ofValue, hA.ev hc, hargs]
  rw [hr, Oper.uponIn_defer]
  refine hK _ _ (h (fun o' ho' => hd o' (List.mem_cons_of_mem _ ho')) _ ⟨hA.size, ?_, hA.look⟩)
  show _ :: a.defers = _
  rw [hA.defs]
end

section
variable {x : Cx} {W : World → Prop} {E : Env} {K : Value → Prop} {d : Option Tmp} {ty : TypeId} {pos : String} {aft : Array Edge} {g : Option (Nat × Bool)} {o : Operand} {xt yt : TypeId}
theorem Y_ifaceNeT {t : TypeId} {v : Value} {ms : Array (String × TypeId)} (hu : x.P.underlying xt = some (.interface ms)) (h1 : ev E o = some (.iface t v)) (k : K (.bool true)) : Y x W ⟨d, .binOp .neq xt o (.const .nilIface) yt, ty, pos, aft, g⟩ E K :=
  Y_of (v := .bool true) (fun f hf w _ => by
    have he : eqGuard .neq xt o (.const .nilIface) (.iface t v) .nilIface = pure () := rfl
    have h : ∀ q : Nat, (Op.equalIn (q + 1) xt (.iface t v) .nilIface).run x.P w = .ok false w := fun q => by simp [Op.equalIn, run_underlying hu]
    have h' : (binOp .neq xt (.iface t v) .nilIface).run x.P w = .ok (.bool true) w := by
      simp only [binOp]
      simp [Op.equal, Op.maxDepth, h 9999]
    have hc : f.eval (.const .nilIface) = .nilIface := rfl
    simp only [execOp, hf.ev h1, hc, he]
    simp [h']) k
theorem Y_ifaceNeF {ms : Array (String × TypeId)} (hu : x.P.underlying xt = some (.interface ms)) (h1 : ev E o = some .nilIface) (k : K (.bool false)) : Y x W ⟨d, .binOp .neq xt o (.const .nilIface) yt, ty, pos, aft, g⟩ E K :=
  Y_of (v := .bool false) (fun f hf w _ => by
    have he : eqGuard .neq xt o (.const .nilIface) .nilIface .nilIface = pure () := by simp [eqGuard]
    have h : ∀ q : Nat, (Op.equalIn (q + 1) xt .nilIface .nilIface).run x.P w = .ok true w := fun q => by simp [Op.equalIn, run_underlying hu]
    have h' : (binOp .neq xt .nilIface .nilIface).run x.P w = .ok (.bool false) w := by
      simp only [binOp]
      simp [Op.equal, Op.maxDepth, h 9999]
    have hc : f.eval (.const .nilIface) = .nilIface := rfl
    simp only [execOp, hf.ev h1, hc, he]
    simp [h']) k
theorem Y_assertT {t : TypeId} {td : TypeDesc} {v : Value} (hu : x.P.underlying t = some td) (hi : ∀ m, td ≠ .interface m) (h1 : ev E o = some (.iface t v)) (k : K (.tuple #[v, .bool true])) : Y x W ⟨d, .typeAssert o xt t true, ty, pos, aft, g⟩ E K :=
  Y_of (v := .tuple #[v, .bool true]) (fun f hf w _ => by
    simp only [execOp, Instr.typeAssert, hf.ev h1]
    cases td <;> first | exact absurd rfl (hi _) | simp [run_underlying hu]) k
end
/-- What follows the first part of a body. -/
def restOf (fn : Func) : Code := match fn.body with | some (.seq _ c) => c | _ => .skip

/-- The end of a body with one deferred closure, which finds nothing to recover. -/
theorem RtD_ret {P : Program} {N : Nat} {E : Env} {w : World} {fn : Func} {R : Value → World → Prop} {f : FuncId} {fnn : Func} {cap : List Value} {v : Value} (hd : E.d = [{ target := .fn (.func f) cap.toArray, args := #[] }]) (hfn : P.funcs[f]? = some fnn) (hb : fnn.body.isSome = true)
    (hnm : (fnn.name == "runtime.NumGoroutine") = false) (hcall : CallsDIn (RF none) 0 P f cap.toArray .returning w fun e u' w' => (∃ y, e = .returned y) ∧ u' = .returning ∧ w' = w)
    (hres : ∀ a, Ag N E a → (results fn a.tmps).run P w = .ok v w) (hR : R v w) : RtD P N fn R .ret E w := by
  intro a hA
  rw [hd]
  refine leavesIn_cons (f := f) (args := cap.toArray) (by simp) (by simp [RF]) ?_ (fun _ _ => trivial) (hcall.mono ?_)
  · have hbn : ¬ fnn.body = none := by intro h0; rw [h0] at hb; cases hb
    have hnm' : ¬ fnn.name = "runtime.NumGoroutine" := by simpa using hnm
    simp [invoke, callFunc, hfn, hnm', hbn]
  · rintro e u' w' ⟨⟨y, rfl⟩, rfl, rfl⟩
    exact ⟨v, hres a hA, v, rfl, hR⟩
/-- A panic goes through the closure, which recovers. -/
theorem RtD_panic {P : Program} {N : Nat} {E : Env} {w : World} {fn : Func} {R : Value → World → Prop} {f : FuncId} {fnn : Func} {cap : List Value} {v : Value} (hd : E.d = [{ target := .fn (.func f) cap.toArray, args := #[] }]) (hfn : P.funcs[f]? = some fnn) (hb : fnn.body.isSome = true)
    (hnm : (fnn.name == "runtime.NumGoroutine") = false) (hcall : CallsDIn (RF none) 0 P f cap.toArray (.panicking [{ v := v, recovered := false }]) w fun e u' w' => (∃ y, e = .returned y) ∧ u' = .panicking [{ v := v, recovered := true }] ∧ ∃ r, (∀ a, Ag N E a → (results fn a.tmps).run P w' = .ok r w') ∧ R r w') :
    RtD P N fn R (.panic [{ v := v, recovered := false }]) E w := by
  intro a hA
  rw [hd]
  refine leavesIn_cons (f := f) (args := cap.toArray) (by simp) (by simp [RF]) ?_ (fun _ _ => trivial) (hcall.mono ?_)
  · have hbn : ¬ fnn.body = none := by intro h0; rw [h0] at hb; cases hb
    have hnm' : ¬ fnn.name = "runtime.NumGoroutine" := by simpa using hnm
    simp [invoke, callFunc, hfn, hnm', hbn]
  · rintro e u' w' ⟨⟨y, rfl⟩, rfl, r, h1, h2⟩
    exact ⟨r, h1 a hA, r, rfl, h2⟩

/-- A deferred closure whose body begins with recover: what follows is walked like any code. -/
theorem callsD_rec {P : Program} {f : FuncId} {fn : Func} {N id t t' : Nat} {ty ty' : TypeId} {pos pos' : String} {aft aft' : Array Edge} {ats : Array TypeId} {c : Code} {args : List Value} {w : World} {u u' : FrameMode} {y : Value} {R : World → Prop}
    (hf : P.funcs[f]? = some fn) (hb : fn.body = some (.seq (.region id #[⟨some t, .call { callee := .builtin .recover, args := #[], argTypes := ats }, ty, pos, aft, none⟩, ⟨some t', .assign (.tmp t), ty', pos', aft', none⟩] false) c))
    (hN : fn.ntmps = N) (hn : args.length ≤ N) (ht : t < N) (ht' : t' < N) (hu : (u = .returning ∧ u' = .returning ∧ y = .nilIface) ∨ ∃ v, u = .panicking [{ v := v, recovered := false }] ∧ u' = .panicking [{ v := v, recovered := true }] ∧ y = v)
    (h : T ⟨P, N, none⟩ c (Rt P N fn fun _ w' => R w') ⟨[], (t', y) :: (t, y) :: enumL 0 args⟩ w) :
    CallsDIn (RF none) 0 P f args.toArray u w fun e u2 w' => (∃ y, e = .returned y) ∧ u2 = u' ∧ R w' := by
  have ha : Ag N ⟨[], enumL 0 args⟩ { tmps := args.toArray ++ Array.replicate (fn.ntmps - args.toArray.size) undef, defers := [] } := by
    refine ⟨by simp [hN]; omega, rfl, fun t v ht => ?_⟩
    obtain ⟨_, h2⟩ := enumL_get args 0 t v ht
    have hlt : t < args.length := by
      rcases Nat.lt_or_ge t args.length with h' | h'
      · exact h'
      · rw [List.getElem?_eq_none (by omega)] at h2; cases h2
    rw [Array.getElem?_append_left (by simpa using hlt)]
    simpa using h2
  have ha2 : Ag N ⟨[], (t', y) :: (t, y) :: enumL 0 args⟩ _ := (ha.put (some t) y (fun k hk => by cases hk; exact ht)).put (some t') y (fun k hk => by cases hk; exact ht')
  refine callsDIn_of_wpSIn hf hb trivial fun c₀ cs hc₀ => wpSIn_seq (wpSIn_region ?_)
  have hev : (Act.put { tmps := args.toArray ++ Array.replicate (fn.ntmps - args.toArray.size) undef, defers := [] } (some t) y).eval (.tmp t) = y := by
    have h1 := (ha.put (some t) y (fun k hk => by cases hk; exact ht)).ev (o := .tmp t) (v := y) (by simp [Ex.ev, Env.put, eget])
    exact h1
  have fin : ∀ (cs' : List Frame), (cs' = { c₀ with mode := u' } :: cs) → Exit.thenS (c.wpSIn (RF none) 0 P (bodyPostS P fn c₀ cs fun e u2 w' => (∃ y, e = .returned y) ∧ u2 = u' ∧ R w')) (bodyPostS P fn c₀ cs fun e u2 w' => (∃ y, e = .returned y) ∧ u2 = u' ∧ R w') .normal
      (Act.put (Act.put { tmps := args.toArray ++ Array.replicate (fn.ntmps - args.toArray.size) undef, defers := [] } (some t) y) (some t') y) cs' w := by
    rintro cs' rfl
    refine wpSIn_of_wpIn rfl (wpIn_mono (h _ ha2) ?_)
    rintro e a' w' ⟨E, hE, hq⟩
    cases e <;> simp only [Rt] at hq <;> try exact hq.elim
    all_goals
      obtain ⟨hd, v, hv, hR⟩ := hq
      exact ⟨hE.defs.trans hd, u', rfl, v, hv a' hE, ⟨v, rfl⟩, rfl, hR⟩
  show wpOpsSIn (RF none) 0 P _ _ [0, 1] _ _ _
  have hrec : ∀ ρ : Operand → Value, (execOp ρ ⟨some t, .call { callee := .builtin .recover, args := #[], argTypes := ats }, ty, pos, aft, none⟩).run P w = .ok .recover w := by
    intro ρ; simp [execOp, resolve, invoke, builtin]
  have hwant : ∀ (d : Option Tmp) (op : Op) (ty : TypeId) (pos : String) (aft : Array Edge) (y : Nat → Option Bool), Region.wanted ⟨d, op, ty, pos, aft, none⟩ y = true := by
    intro d op ty pos aft y; simp [Region.wanted]
  rcases hu with ⟨rfl, rfl, rfl⟩ | ⟨v, rfl, rfl, hy⟩
  · have hcs : ({ c₀ with mode := .returning } : Frame) = c₀ := by rw [← hc₀]
    have hnr : recoverD (c₀ :: cs) = none := by simp [recoverD, hc₀]
    simp only [wpOpsSIn, List.getElem?_toArray, List.getElem?_cons_zero, List.getElem?_cons_succ, hwant, if_true, hrec, hnr]
    refine ⟨fun _ _ => trivial, fun _ _ => trivial, ?_⟩
    simp only [execOp, Sem.run_pure, hev]
    exact fin _ (by rw [hcs])
  · subst hy
    have hnr : recoverD (c₀ :: cs) = some (y, { c₀ with mode := .panicking [{ v := y, recovered := true }] } :: cs) := by simp [recoverD, hc₀]
    simp only [wpOpsSIn, List.getElem?_toArray, List.getElem?_cons_zero, List.getElem?_cons_succ, hwant, if_true, hrec, hnr]
    refine ⟨fun _ _ => trivial, fun _ _ => trivial, ?_⟩
    simp only [execOp, Sem.run_pure, hev]
    exact fin _ rfl

section
variable {x : Cx} {ops : Array Oper} {pre : List Nat} {W : World → Prop} {Q : Exit → Env → World → Prop} {E : Env} {w : World}
/-- There is but one that may come up now; it has no result; W holds behind it. -/
theorem A_onlyN (i : Nat) {op : Op} {ty : TypeId} {pos : String} {aft : Array Edge} {g : Option (Nat × Bool)} {fuel : Nat} {listed : Array Bool} (hi : ops[i]? = some ⟨none, op, ty, pos, aft, g⟩)
    (hr : (Region.ready .any ops listed == [i]) = true) (hg : gd ops ⟨none, op, ty, pos, aft, g⟩ E = some true)
    (h : S x ⟨none, op, ty, pos, aft, g⟩ (np Q) (fun _ w' => W w' ∧ A x ops pre W Q fuel (listed.setIfInBounds i true) E w') E w) : A x ops pre W Q (fuel + 1) listed E w :=
  A_one i hi hr hg (S_mono h fun _ _ hv => ⟨fun _ => hv.1, hv.2⟩)
end
end Go.Ex
