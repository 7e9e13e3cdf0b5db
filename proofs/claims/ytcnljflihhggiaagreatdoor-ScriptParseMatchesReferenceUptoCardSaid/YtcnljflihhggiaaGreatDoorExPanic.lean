/- Calls that may panic. -/
import Derived.Test.YtcnljflihhggiaaGreatDoorExLists
import Derived.RecoverIn
namespace Go.Ex
open Go Go.RowKit

/-- What a function's body must come to, where it may panic. -/
def RtX (P : Program) (N : Nat) (fn : Func) (R X : Value → World → Prop) : Exit → Env → World → Prop
  | .normal, E, w | .ret, E, w => E.d = [] ∧ ∃ v, (∀ a, Ag N E a → (results fn a.tmps).run P w = .ok v w) ∧ R v w
  | .panic ch, E, w => E.d = [] ∧ ∃ v, ch = [{ v := v, recovered := false }] ∧ X v w
  | _, _, _ => False

/-- The call returns as R says, or panics with a value as X says; what it owned is then lost. -/
def FnX (P : Program) (f : FuncId) (args : List Value) (G : Ghost) (H : List Res) (R : Value → Ghost → List Res → Prop) (X : Value → Ghost → Prop) : Prop :=
  ∀ w, St ⟨w, G, feet H⟩ G H w → Calls P f args.toArray w fun e w' => (∃ v G' H', e = .returned v ∧ St ⟨w, G, feet H⟩ G' H' w' ∧ R v G' H') ∨ ∃ v G', e = .panicked [{ v := v, recovered := false }] ∧ St ⟨w, G, feet H⟩ G' [] w' ∧ X v G'

theorem FnX.mono {P : Program} {f : FuncId} {args : List Value} {G : Ghost} {H : List Res} {R R' : Value → Ghost → List Res → Prop} {X X' : Value → Ghost → Prop} (h : FnX P f args G H R X)
    (hr : ∀ v G' H', G.le G' → R v G' H' → R' v G' H') (hx : ∀ v G', G.le G' → X v G' → X' v G') : FnX P f args G H R' X' := fun w hw =>
  (h w hw).mono fun _ _ he => by
    rcases he with ⟨v, G', H', he, hs, hR⟩ | ⟨v, G', he, hs, hX⟩
    · exact .inl ⟨v, G', H', he, hs, hr v G' H' hs.le hR⟩
    · exact .inr ⟨v, G', he, hs, hx v G' hs.le hX⟩
theorem FnOk.toX {P : Program} {f : FuncId} {args : List Value} {G : Ghost} {H : List Res} {R : Value → Ghost → List Res → Prop} {X : Value → Ghost → Prop} (h : FnOk P f args G H R) : FnX P f args G H R X := fun w hw =>
  (h w hw).mono fun _ _ ⟨v, G', H', he, hs, hR⟩ => .inl ⟨v, G', H', he, hs, hR⟩
theorem FnX.toOk {P : Program} {f : FuncId} {args : List Value} {G : Ghost} {H : List Res} {R : Value → Ghost → List Res → Prop} (h : FnX P f args G H R fun _ _ => False) : FnOk P f args G H R := fun w hw =>
  (h w hw).mono fun _ _ he => by
    rcases he with h | ⟨_, _, _, _, hX⟩
    · exact h
    · exact hX.elim

theorem FnX.call {P : Program} {f : FuncId} {args : List Value} {G : Ghost} {H1 H : List Res} {R : Value → Ghost → List Res → Prop} {X : Value → Ghost → Prop} (h : FnX P f args G H1 R X) {c : Ctx} {w : World} (hs : St c G (H1 ++ H) w) :
    Calls P f args.toArray w fun e w' => (∃ v G' H', e = .returned v ∧ G.le G' ∧ St c G' (H' ++ H) w' ∧ R v G' H') ∨ ∃ v G', e = .panicked [{ v := v, recovered := false }] ∧ G.le G' ∧ St c G' H w' ∧ X v G' := by
  have hpw := List.pairwise_append.1 hs.apart
  have h0 : St ⟨w, G, feet H1⟩ G H1 w := ⟨rfl, rfl, rfl, Nat.le_refl _, fun _ _ _ => rfl, Ghost.le.refl G, fun k o hk => .inl hk, hs.ghost, fun r hr => hs.hold r (List.mem_append_left _ hr),
    fun r hr k hk => ⟨(hs.off r (List.mem_append_left _ hr) k hk).1, .inr ⟨r, hr, hk⟩⟩, hpw.1⟩
  have key : ∀ G' H' w', St ⟨w, G, feet H1⟩ G' H' w' → St c G' (H' ++ H) w' := fun G' H' w' h' => by
    refine St.step hs h'.os h'.tape h'.output h'.size (fun k hk hk' => h'.old k hk (fun ⟨r, hr, hrk⟩ => hk' r hr hrk)) h'.le h'.new (fun k o hk _ => h'.ghost k o hk) h'.hold ?_ h'.apart
    intro r hr k hk
    exact h'.off r hr k hk
  refine (h w h0).mono fun e w' he => ?_
  rcases he with ⟨v, G', H', he, h', hR⟩ | ⟨v, G', he, h', hX⟩
  · exact .inl ⟨v, G', H', he, h'.le, key G' H' w' h', hR⟩
  · exact .inr ⟨v, G', he, h'.le, key G' [] w' h', hX⟩

theorem callsX_of_T {P : Program} {f : FuncId} {fn : Func} {N : Nat} {c : Code} {args : List Value} {w : World} {R X : Value → World → Prop} {L : List (Nat × Value)}
    (hf : P.funcs[f]? = some fn) (hb : fn.body = some c) (hN : fn.ntmps = N) (hn : args.length ≤ N) (hL : enumL 0 args = L)
    (h : T ⟨P, N, none⟩ c (RtX P N fn R X) ⟨[], L⟩ w) : Calls P f args.toArray w fun e w' => (∃ v, e = .returned v ∧ R v w') ∨ ∃ v, e = .panicked [{ v := v, recovered := false }] ∧ X v w' := by
  subst hL
  refine (callsIn_wide (n := 0)).1 (callsIn_of_wp hf hb trivial ?_ rfl)
  have ha : Ag N ⟨[], enumL 0 args⟩ { tmps := args.toArray ++ Array.replicate (fn.ntmps - args.toArray.size) undef, defers := [] } := by
    refine ⟨by simp [hN]; omega, rfl, fun t v ht => ?_⟩
    obtain ⟨_, h2⟩ := enumL_get args 0 t v ht
    have hlt : t < args.length := by
      rcases Nat.lt_or_ge t args.length with h' | h'
      · exact h'
      · rw [List.getElem?_eq_none (by omega)] at h2; cases h2
    rw [Array.getElem?_append_left (by simpa using hlt)]
    simpa using h2
  refine wpIn_mono (h _ ha) ?_
  rintro e a' w' ⟨E, hE, hq⟩
  cases e <;> simp only [RtX] at hq <;> try exact hq.elim
  · obtain ⟨hd, v, hv, hR⟩ := hq
    exact ⟨hE.defs.trans hd, v, hv a' hE, .inl ⟨v, rfl, hR⟩⟩
  · obtain ⟨hd, v, hv, hR⟩ := hq
    exact ⟨hE.defs.trans hd, v, hv a' hE, .inl ⟨v, rfl, hR⟩⟩
  · obtain ⟨hd, v, rfl, hX⟩ := hq
    exact ⟨hE.defs.trans hd, .inr ⟨v, rfl, hX⟩⟩
theorem FnX.of_T {P : Program} {f : FuncId} {fn : Func} {N : Nat} {c : Code} {args : List Value} {G : Ghost} {H : List Res} {R : Value → Ghost → List Res → Prop} {X : Value → Ghost → Prop} (L : List (Nat × Value))
    (hf : P.funcs[f]? = some fn) (hb : fn.body = some c) (hN : fn.ntmps = N) (hn : args.length ≤ N) (hL : enumL 0 args = L)
    (h : ∀ w, St ⟨w, G, feet H⟩ G H w → T ⟨P, N, none⟩ c (RtX P N fn (fun v w' => ∃ G' H', St ⟨w, G, feet H⟩ G' H' w' ∧ R v G' H') fun v w' => ∃ G', St ⟨w, G, feet H⟩ G' [] w' ∧ X v G') ⟨[], L⟩ w) : FnX P f args G H R X := fun w hw =>
  (callsX_of_T hf hb hN hn hL (h w hw)).mono fun _ _ he => by
    rcases he with ⟨v, he, G', H', hs, hR⟩ | ⟨v, he, G', hs, hX⟩
    · exact .inl ⟨v, G', H', he, hs, hR⟩
    · exact .inr ⟨v, G', he, hs, hX⟩
theorem RtX_fin {P : Program} {N : Nat} {E : Env} {w : World} {fn : Func} {rs : List ResultVar} {vs : List Value} {R X : Value → World → Prop} (hr : fn.results = rs.toArray) (hd : E.d = []) (h : All2 (ResOk P E w) rs vs) (hR : R (tup vs) w) :
    RtX P N fn R X .ret E w := ⟨hd, tup vs, results_run hr h, hR⟩
theorem RtX_finN {P : Program} {N : Nat} {E : Env} {w : World} {fn : Func} {rs : List ResultVar} {vs : List Value} {R X : Value → World → Prop} (hr : fn.results = rs.toArray) (hd : E.d = []) (h : All2 (ResOk P E w) rs vs) (hR : R (tup vs) w) :
    RtX P N fn R X .normal E w := ⟨hd, tup vs, results_run hr h, hR⟩

theorem RtX_panic {P : Program} {N : Nat} {E : Env} {w : World} {fn : Func} {R X : Value → World → Prop} {v : Value} (hd : E.d = []) (hX : X v w) : RtX P N fn R X (.panic [{ v := v, recovered := false }]) E w := ⟨hd, v, rfl, hX⟩

section
variable {x : Cx} {Q : Exit → Env → World → Prop} {E : Env} {K : Value → World → Prop} {w : World} {d : Option Tmp} {ty : TypeId} {pos : String} {aft : Array Edge} {g : Option (Nat × Bool)} {c : Ctx} {G : Ghost} {H : List Res}
/-- A call of a function that may panic. -/
theorem S_callX {f : FuncId} {as : List Operand} {ats : Array TypeId} {args : List Value} {H1 : List Res} {R : Value → Ghost → List Res → Prop} {X : Value → Ghost → Prop} {fn : Func} (hs : St c G (H1 ++ H) w) (ha : as.map (ev E) = args.map some)
    (hfn : x.P.funcs[f]? = some fn) (hb : fn.body.isSome = true) (hnm : (fn.name == "runtime.NumGoroutine") = false) (h : FnX x.P f args G H1 R X)
    (kx : ∀ v G' w', X v G' → G.le G' → St c G' H w' → Q (.panic [{ v := v, recovered := false }]) E w')
    (kk : ∀ v G' H' w', R v G' H' → G.le G' → St c G' (H' ++ H) w' → K v w') : S x ⟨d, .call { callee := .value (.func f), args := as.toArray, argTypes := ats }, ty, pos, aft, g⟩ Q K E w := by
  intro a hA next hn
  have hargs := evals hA as args ha
  refine ⟨fun _ _ => trivial, ?_⟩
  rw [Oper.semAt_eq _ _ _ (fun c hc => by cases hc)]
  have hr : (execOp a.eval ⟨d, .call { callee := .value (.func f), args := as.toArray, argTypes := ats }, ty, pos, aft, g⟩).run x.P w = .ok (.enter f args.toArray) w := by
    have hbn : ¬ fn.body = none := by intro h0; rw [h0] at hb; cases hb
    have hnm' : ¬ fn.name = "runtime.NumGoroutine" := by simpa using hnm
    simp [execOp, resolve, Deferred.ofValue, Act.eval, invoke, callFunc, hfn, hnm', hbn, hargs]
  rw [hr]
  refine ⟨fun h => (by cases h), ?_⟩
  have hcall := h.call hs
  have h2 := (callsIn_wide (n := 0)).2 hcall
  have h3 := CallsIn.mono (F := RF x.r) (n := 0 - 1) (R := _) (R' := fun
      | .returned v, w'' => next (a.put d v) w''
      | .panicked chain, w'' => lift x.N Q (.panic chain) a w''
      | .outgrown, _ => LetsOut (lift x.N Q)) h2 (fun e w' he => by
    rcases he with ⟨v, G', H', rfl, hle, hs', hR⟩ | ⟨v, G', rfl, hle, hs', hX⟩
    · exact hn _ _ (kk v G' H' w' hR hle hs')
    · exact ⟨E, hA, kx v G' w' hX hle hs'⟩)
  exact h3
/-- panic(v) -/
theorem S_panic {o : Operand} {v : Value} (h : ev E o = some v) (hv : ∀ w, (Instr.panic v).run x.P w = .halt (.panic v) w) (k : Q (.panic [{ v := v, recovered := false }]) E w) : S x ⟨d, .panic o, ty, pos, aft, g⟩ Q K E w := by
  intro a hA next hn
  refine ⟨fun _ _ => trivial, ?_⟩
  rw [Oper.semAt_eq _ _ _ (fun c hc => by cases hc)]
  have hr : (execOp a.eval ⟨d, .panic o, ty, pos, aft, g⟩).run x.P w = .halt (.panic v) w := by
    simp [execOp, hA.ev h, hv]
  rw [hr, Oper.uponIn_panic]
  exact ⟨E, hA, k⟩
end

/-- What is new lies apart from a block and a row that came in. -/
theorem noM2 {w w0 : World} {G G0 : Ghost} {r : Res} {H : List Res} {b e e0 e1 e2 k1 k2 n1 n2 : Nat} {cs cs0 xs xs0 : List Value} {v : Value} (i j : Nat) (hs : St ⟨w0, G0, feet [.blk b e0 cs0, .row e1 k1 v n1 xs0]⟩ G (r :: H) w)
    (hi : H[i]? = some (.blk b e cs)) (hj : H[j]? = some (.row e2 k2 v n2 xs)) : ∀ k, r.foot k → ¬ (⟨w0, G0, feet [.blk b e0 cs0, .row e1 k1 v n1 xs0]⟩ : Ctx).M k := by
  intro k hk hM
  obtain ⟨s, hs', hsk⟩ := hM
  have hap := (List.pairwise_cons.1 hs.apart).1
  simp only [List.mem_cons, List.not_mem_nil, or_false] at hs'
  rcases hs' with rfl | rfl
  · exact hap _ (List.mem_of_getElem? hi) k hk hsk
  · exact hap _ (List.mem_of_getElem? hj) k hk hsk

/-! ### strings; values behind an interface -/
theorem str_at {s : List UInt8} {i : Nat} {b : UInt8} (h : s[i]? = some b) : (⟨s.toArray⟩ : ByteArray)[i]? = some b := by
  obtain ⟨h1, h2⟩ := List.getElem?_eq_some_iff.1 h
  have hs : (⟨s.toArray⟩ : ByteArray).size = s.length := by simp [ByteArray.size]
  rw [getElem?_pos (⟨s.toArray⟩ : ByteArray) i (by rw [hs]; exact h1)]
  show some (s.toArray[i]'(by simpa using h1)) = some b
  simp [h2]
section
variable {x : Cx} {W : World → Prop} {E : Env} {K : Value → Prop} {d : Option Tmp} {ty : TypeId} {pos : String} {aft : Array Edge} {g : Option (Nat × Bool)}
theorem Y_makeInterface {o : Operand} {t : TypeId} {v : Value} {td : TypeDesc} (hu : x.P.underlying t = some td) (hi : ∀ m, td ≠ .interface m) (h : ev E o = some v) (k : K (.iface t v)) : Y x W ⟨d, .makeInterface t o, ty, pos, aft, g⟩ E K :=
  Y_of (v := .iface t v) (fun a ha w _ => by
    simp only [execOp, Instr.makeInterface, ha.ev h]
    cases td <;> first | exact absurd rfl (hi _) | simp [run_underlying hu]) k
theorem Y_sliceStr {o : Operand} {lo hi : Option Operand} {t : TypeId} {s : List UInt8} (l h : Nat) (hu : x.P.underlying t = some .string) (h1 : ev E o = some (.string ⟨s.toArray⟩)) (hlo : bnd E lo 0 l) (hhi : bnd E hi s.length h) (hl : l ≤ h) (hh : h ≤ s.length)
    (k : K (.string ⟨((s.drop l).take (h - l)).toArray⟩)) : Y x W ⟨d, .slice t o lo hi none, ty, pos, aft, g⟩ E K := by
  have hsz : (⟨s.toArray⟩ : ByteArray).size = s.length := by simp [ByteArray.size]
  have hex : (⟨s.toArray⟩ : ByteArray).extract l h = ⟨((s.drop l).take (h - l)).toArray⟩ := by
    apply ByteArray.ext
    rw [ByteArray.data_extract]
    simp [List.extract_eq_take_drop]
  refine Y_of (v := .string ⟨((s.drop l).take (h - l)).toArray⟩) (fun f hf w _ => ?_) k
  cases lo with
  | none =>
    obtain rfl : l = 0 := hlo
    cases hi with
    | none =>
      obtain rfl : h = s.length := hhi
      simp [execOp, hf.ev h1, Instr.sliceAt, Instr.slice, Instr.sliceBounds, run_underlying hu, hsz, hex]
    | some q =>
      obtain ⟨kd, j, hq, rfl⟩ := hhi
      simp [execOp, hf.ev h1, hf.ev hq, Instr.sliceAt, Instr.slice, Instr.sliceBounds, Instr.sliceBound, asIntOf, run_underlying hu, hsz, hex, hh]
  | some q =>
    obtain ⟨kd, j, hq, rfl⟩ := hlo
    cases hi with
    | none =>
      obtain rfl : h = s.length := hhi
      simp [execOp, hf.ev h1, hf.ev hq, Instr.sliceAt, Instr.slice, Instr.sliceBounds, Instr.sliceBound, asIntOf, run_underlying hu, hsz, hex, hl]
    | some q' =>
      obtain ⟨kd', j', hq', rfl⟩ := hhi
      simp [execOp, hf.ev h1, hf.ev hq, hf.ev hq', Instr.sliceAt, Instr.slice, Instr.sliceBounds, Instr.sliceBound, asIntOf, run_underlying hu, hsz, hex, hl, hh]
end
end Go.Ex
