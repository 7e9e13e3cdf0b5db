/- Regions that draw their order: an operation that yields its value in every world that meets W may be taken first. -/
import Derived.Test.YtcnljflihhggiaaGreatDoorExCore
namespace Go.Ex
open Go

section
variable {r : Option Nat} {P : Program} {ops : Array Oper} {Q : Exit → Act → World → Prop} {pre : List Nat} {W : World → Prop}

/-- Does t wait for i (through others)? -/
def anc (ops : Array Oper) : Nat → Nat → Nat → Bool
  | 0, _, _ => false
  | n + 1, t, i => match ops[t]? with
    | none => false
    | some o => (o.after.toList.any fun e => Region.binds .any e && Nat.beq e.on i) || (o.after.toList.any fun e => Region.binds .any e && anc ops n e.on i)
/-- Whatever is listed, what it waits for is listed. -/
def DC (ops : Array Oper) (listed : Array Bool) : Prop := ∀ (j : Nat) (o : Oper), ops[j]? = some o → listed.getD j false = true → ∀ e ∈ o.after, Region.binds .any e = true → listed.getD e.on false = true
theorem anc_listed {ops : Array Oper} {listed : Array Bool} (h : DC ops listed) {i : Nat} : ∀ (n t : Nat) (o : Oper), ops[t]? = some o → (∀ e ∈ o.after, Region.binds .any e = true → listed.getD e.on false = true) → anc ops n t i = true → listed.getD i false = true
  | 0, _, _, _, _, h2 => by cases h2
  | n + 1, t, o, ho, hall, h2 => by
    simp only [anc, ho, Bool.or_eq_true] at h2
    rcases h2 with h2 | h2
    · obtain ⟨e, he, hb⟩ := List.any_eq_true.1 h2
      simp only [Bool.and_eq_true] at hb
      have := hall e (by simpa using he) hb.1
      rw [Nat.eq_of_beq_eq_true hb.2] at this
      exact this
    · obtain ⟨e, he, hb⟩ := List.any_eq_true.1 h2
      simp only [Bool.and_eq_true] at hb
      have hl := hall e (by simpa using he) hb.1
      cases hp : ops[e.on]? with
      | none =>
        cases n with
        | zero => simp [anc] at hb
        | succ n => simp [anc, hp] at hb
      | some p => exact anc_listed h n e.on p hp (h e.on p hp hl) hb.2
theorem DC.set {ops : Array Oper} {listed : Array Bool} (h : DC ops listed) {j : Nat} {oj : Oper} (hj : ops[j]? = some oj) (hall : ∀ e ∈ oj.after, Region.binds .any e = true → listed.getD e.on false = true) : DC ops (listed.setIfInBounds j true) := by
  have up : ∀ k, listed.getD k false = true → (listed.setIfInBounds j true).getD k false = true := fun k hk => by
    by_cases hkj : j = k
    · subst hkj
      simp only [Array.getD_eq_getD_getElem?] at hk ⊢
      rcases Nat.lt_or_ge j listed.size with h' | h'
      · rw [Array.getElem?_setIfInBounds_self_of_lt h']; rfl
      · rw [Array.getElem?_eq_none h'] at hk; cases hk
    · rw [getD_set_ne false hkj]; exact hk
  intro k o ho hk e he hb
  by_cases hkj : j = k
  · subst hkj
    rw [hj] at ho
    injection ho with ho
    subst ho
    exact up _ (hall e he hb)
  · rw [getD_set_ne false hkj] at hk
    exact up _ (h k o ho hk e he hb)

def wpAnyS (r : Option Nat) (P : Program) (ops : Array Oper) (Q : Exit → Act → World → Prop) (pre : List Nat) (W : World → Prop) : Nat → Array Bool → Act → World → Prop
  | 0, listed, a, w => Region.ready .any ops listed = [] ∧ Q .normal a w
  | fuel + 1, listed, a, w =>
    (Region.ready .any ops listed = [] → Q .normal a w) ∧
    ∀ i ∈ Region.ready .any ops listed, wpOpIn (RF r) 0 P ops Q i (fun a' w' => (pre.contains i = true → W w') ∧ wpAnyS r P ops Q pre W fuel (listed.setIfInBounds i true) a' w') a w

theorem wpAnyIn_of_S : ∀ (fuel : Nat) (listed : Array Bool) (a : Act) (w : World), wpAnyS r P ops Q pre W fuel listed a w → wpAnyIn (RF r) 0 P .any ops Q fuel listed a w
  | 0, _, _, _, h => h
  | fuel + 1, _, _, _, h => ⟨h.1, fun i hi => wpOpIn_mono (fun a' w' h' => wpAnyIn_of_S fuel _ a' w' h'.2) (h.2 i hi)⟩

theorem YieldsIf.wpOpInS {i : Nat} {o : Oper} {v : Value} {a : Act} (hi : ops[i]? = some o) (hnd : ∀ c, o.op ≠ .defer c) (hy : YieldsIf P ops W o v a)
    {K : Act → World → Prop} {w : World} (hW : W w) (h : K (a.put o.dst v) w) : wpOpIn (RF r) 0 P ops Q i K a w := by
  unfold Go.wpOpIn
  simp only [hi]
  rcases hy with ⟨hw, hv⟩ | ⟨hw, rfl⟩
  · simp only [hw, if_true, Oper.wpIn, Oper.semAt_eq _ _ _ hnd, hv w hW, Oper.uponIn]; exact ⟨fun _ _ => trivial, h⟩
  · simp only [hw, Bool.false_eq_true, if_false]; exact ⟨fun _ _ => trivial, h⟩

theorem wpOpIn_putS {j : Nat} {oi oj : Oper} {v : Value} (hj : ops[j]? = some oj) (hap : oi.apart ops oj = true)
    (hsi : ∀ cs b, oi.op ≠ .select cs b) (hsj : ∀ cs b, oj.op ≠ .select cs b) (hnd : ∀ c, oj.op ≠ .defer c)
    (hQ : ∀ c a w, Q (.panic c) (a.put oi.dst v) w → Q (.panic c) a w) {K : Act → World → Prop} {a : Act} {w : World}
    (hy : YieldsIf P ops W oi v a) (h : wpOpIn (RF r) 0 P ops Q j K (a.put oi.dst v) w) :
    wpOpIn (RF r) 0 P ops Q j (fun a' w' => YieldsIf P ops W oi v a' ∧ K (a'.put oi.dst v) w') a w := by
  obtain ⟨h1, h2, h3⟩ := Oper.apart_spec hap
  have keep : ∀ (a : Act), YieldsIf P ops W oi v a → ∀ u, YieldsIf P ops W oi v (a.put oj.dst u) := fun a hy u =>
    hy.of_same (execOp_put oi hsi a oj.dst u h3) (wanted_put oi a oj.dst u h3)
  have keepD : ∀ d, YieldsIf P ops W oi v { a with defers := d :: a.defers } := fun d => hy.of_same rfl rfl
  unfold wpOpIn at *
  simp only [hj] at *
  rw [wanted_put oj a oi.dst v h1] at h
  split
  · rename_i hw
    simp only [hw, if_true] at h
    unfold Oper.wpIn at *
    refine ⟨fun _ _ => trivial, ?_⟩
    have h := h.2
    rw [Oper.semAt_eq _ _ _ hnd, execOp_put oj hsj a oi.dst v h1] at h
    rw [Oper.semAt_eq _ _ _ hnd]
    generalize (execOp a.eval oj).run P w = res at *
    cases res with
    | ok x w' =>
      cases x <;> simp only [Oper.uponIn] at h ⊢
      case value u => exact ⟨keep a hy u, by rw [← Act.put_comm a v u h2]; exact h⟩
      case skip => exact ⟨keep a hy _, by rw [← Act.put_comm a v undef h2]; exact h⟩
      case defer d =>
        refine ⟨keep _ (keepD d) _, ?_⟩
        rw [← Act.put_comm _ v undef h2, ← Act.put_defers]
        exact h
      case enter f args =>
        refine ⟨h.1, CallsIn.mono h.2 fun e w'' he => ?_⟩
        cases e with
        | returned u => exact ⟨keep a hy u, by rw [← Act.put_comm a v u h2]; exact he⟩
        | panicked c => exact hQ _ _ _ he
        | outgrown => exact he
      case row row args => exact ⟨h.1, RowsIn.mono h.2 fun u w'' he => ⟨keep a hy u, by rw [← Act.put_comm a v u h2]; exact he⟩⟩
      case round l f tmps assign body =>
        refine ⟨h.1, RoundIn.mono h.2 fun e w'' he => ?_⟩
        cases e with
        | returned u => exact ⟨keep a hy u, by rw [← Act.put_comm a v u h2]; exact he⟩
        | panicked c => exact hQ _ _ _ he
        | outgrown => exact he
    | halt x w' =>
      cases x <;> simp only [Oper.uponIn] at h ⊢
      case panic u => exact hQ _ _ _ h
  · rename_i hw
    simp only [hw] at h
    exact ⟨fun _ _ => trivial, keep a hy _, by rw [← Act.put_comm a v undef h2]; exact h.2⟩

theorem wpAnyS_first {i : Nat} {oi : Oper} {v : Value} (hi : ops[i]? = some oi) (hsel : ∀ (j : Nat) (o : Oper) cs b, ops[j]? = some o → o.op ≠ .select cs b)
    (hnd : ∀ (j : Nat) (o : Oper) c, ops[j]? = some o → o.op ≠ .defer c)
    (hQ : ∀ c a w, Q (.panic c) (a.put oi.dst v) w → Q (.panic c) a w) :
    ∀ (fuel : Nat) (listed : Array Bool) (a : Act) (w : World),
      (∀ j oj, ops[j]? = some oj → j ≠ i → listed.getD j true = false → (∀ e ∈ oj.after, Region.binds .any e = true → e.on ≠ i) → oi.apart ops oj = true) →
      i ∈ Region.ready .any ops listed → (∀ (j : Nat) (o : Oper), ops[j]? = some o → j ≠ i → pre.contains j = false → listed.getD j true = false → anc ops ops.size j i = true) → DC ops listed → YieldsIf P ops W oi v a → W w →
      wpAnyS r P ops Q pre W fuel (listed.setIfInBounds i true) (a.put oi.dst v) w → wpAnyS r P ops Q pre W (fuel + 1) listed a w := by
  intro fuel
  induction fuel with
  | zero =>
    intro listed a w _ hr _ hp hy hS H
    refine ⟨fun h => (by rw [h] at hr; cases hr), fun j hj => ?_⟩
    by_cases hji : j = i
    · subst hji; exact YieldsIf.wpOpInS hi (fun c => hnd j oi c hi) hy hS ⟨fun _ => hS, H⟩
    · have := ready_mono hj hji
      rw [H.1] at this
      cases this
  | succ fuel ih =>
    intro listed a w hfree hr htail hp hy hS H
    refine ⟨fun h => (by rw [h] at hr; cases hr), fun j hj => ?_⟩
    by_cases hji : j = i
    · subst hji; exact YieldsIf.wpOpInS hi (fun c => hnd j oi c hi) hy hS ⟨fun _ => hS, H⟩
    · have h1 := H.2 j (ready_mono hj hji)
      obtain ⟨hjun, oj, hoj, hall⟩ := mem_ready.1 hj
      have hnot : ∀ e ∈ oj.after, Region.binds .any e = true → e.on ≠ i := fun e he hb heq => by
        have h1 := hall e he hb
        have h0 := (mem_ready.1 hr).1
        rw [heq] at h1
        rcases Nat.lt_or_ge i listed.size with h' | h'
        · simp [h'] at h0 h1; rw [h0] at h1; cases h1
        · simp [Array.getElem?_eq_none h'] at h1
      have h2 := wpOpIn_putS hoj (hfree j oj hoj hji hjun hnot) (fun cs b => hsel i oi cs b hi) (fun cs b => hsel j oj cs b hoj) (fun c => hnd j oj c hoj) hQ hy h1
      have hfree' : ∀ k ok, ops[k]? = some ok → k ≠ i → (listed.setIfInBounds j true).getD k true = false →
          (∀ e ∈ ok.after, Region.binds .any e = true → e.on ≠ i) → oi.apart ops ok = true := fun k ok hk hki hun hno => by
        refine hfree k ok hk hki ?_ hno
        by_cases hjk : j = k
        · subst hjk; exact hjun
        · rw [getD_set_ne true hjk] at hun; exact hun
      have hall' : ∀ e ∈ oj.after, Region.binds .any e = true → listed.getD e.on false = true := hall
      have hjp : pre.contains j = true := by
        cases hc : pre.contains j with
        | true => rfl
        | false =>
          have h5 := anc_listed hp ops.size j oj hoj hall' (htail j oj hoj hji hc hjun)
          have h6 := (mem_ready.1 hr).1
          simp only [Array.getD_eq_getD_getElem?] at h5 h6
          cases hg : listed[i]? with
          | none => rw [hg] at h5; cases h5
          | some b => rw [hg] at h5 h6; simp at h5 h6; rw [h5] at h6; cases h6
      have htail' : ∀ (k : Nat) (o : Oper), ops[k]? = some o → k ≠ i → pre.contains k = false → (listed.setIfInBounds j true).getD k true = false → anc ops ops.size k i = true := fun k ok hk hki hkp hun => by
        refine htail k ok hk hki hkp ?_
        by_cases hjk : j = k
        · subst hjk; exact hjun
        · rw [getD_set_ne true hjk] at hun; exact hun
      refine wpOpIn_mono (fun a' w' h3 => ⟨fun _ => h3.2.1 hjp, ih (listed.setIfInBounds j true) a' w' hfree' (ready_mono hr (Ne.symm hji)) htail' (hp.set hoj hall') h3.1 (h3.2.1 hjp) ?_⟩) h2
      rw [Array.setIfInBounds_comm _ _ hji]
      exact h3.2.2
theorem wpAnyS_firstP {i : Nat} {oi : Oper} {v : Value} (hi : ops[i]? = some oi) (hsel : ∀ (j : Nat) (o : Oper) cs b, ops[j]? = some o → o.op ≠ .select cs b)
    (hnd : ∀ (j : Nat) (o : Oper) c, ops[j]? = some o → o.op ≠ .defer c) (hip : pre.contains i = false)
    (hQ : ∀ c a w, Q (.panic c) (a.put oi.dst v) w → Q (.panic c) a w) :
    ∀ (fuel : Nat) (listed : Array Bool) (a : Act) (w : World),
      (∀ j oj, ops[j]? = some oj → j ≠ i → listed.getD j true = false → (∀ e ∈ oj.after, Region.binds .any e = true → e.on ≠ i) → oi.apart ops oj = true) →
      i ∈ Region.ready .any ops listed → YieldsIf P ops (fun _ => True) oi v a →
      wpAnyS r P ops Q pre W fuel (listed.setIfInBounds i true) (a.put oi.dst v) w → wpAnyS r P ops Q pre W (fuel + 1) listed a w := by
  have hno : ∀ w : World, pre.contains i = true → W w := fun w h => by rw [hip] at h; cases h
  intro fuel
  induction fuel with
  | zero =>
    intro listed a w _ hr hy H
    refine ⟨fun h => (by rw [h] at hr; cases hr), fun j hj => ?_⟩
    by_cases hji : j = i
    · subst hji; exact YieldsIf.wpOpInS hi (fun c => hnd j oi c hi) hy trivial ⟨hno w, H⟩
    · have := ready_mono hj hji
      rw [H.1] at this
      cases this
  | succ fuel ih =>
    intro listed a w hfree hr hy H
    refine ⟨fun h => (by rw [h] at hr; cases hr), fun j hj => ?_⟩
    by_cases hji : j = i
    · subst hji; exact YieldsIf.wpOpInS hi (fun c => hnd j oi c hi) hy trivial ⟨hno w, H⟩
    · have h1 := H.2 j (ready_mono hj hji)
      obtain ⟨hjun, oj, hoj, hall⟩ := mem_ready.1 hj
      have hnot : ∀ e ∈ oj.after, Region.binds .any e = true → e.on ≠ i := fun e he hb heq => by
        have h1 := hall e he hb
        have h0 := (mem_ready.1 hr).1
        rw [heq] at h1
        rcases Nat.lt_or_ge i listed.size with h' | h'
        · simp [h'] at h0 h1; rw [h0] at h1; cases h1
        · simp [Array.getElem?_eq_none h'] at h1
      have h2 := wpOpIn_putS hoj (hfree j oj hoj hji hjun hnot) (fun cs b => hsel i oi cs b hi) (fun cs b => hsel j oj cs b hoj) (fun c => hnd j oj c hoj) hQ hy h1
      have hfree' : ∀ k ok, ops[k]? = some ok → k ≠ i → (listed.setIfInBounds j true).getD k true = false →
          (∀ e ∈ ok.after, Region.binds .any e = true → e.on ≠ i) → oi.apart ops ok = true := fun k ok hk hki hun hno => by
        refine hfree k ok hk hki ?_ hno
        by_cases hjk : j = k
        · subst hjk; exact hjun
        · rw [getD_set_ne true hjk] at hun; exact hun
      refine wpOpIn_mono (fun a' w' h3 => ⟨h3.2.1, ih (listed.setIfInBounds j true) a' w' hfree' (ready_mono hr (Ne.symm hji)) h3.1 ?_⟩) h2
      rw [Array.setIfInBounds_comm _ _ hji]
      exact h3.2.2

end

/-! ### At environments -/

/-- Q, but False at a panic. -/
def np (Q : Exit → Env → World → Prop) : Exit → Env → World → Prop
  | .panic _, _, _ => False
  | e, E, w => Q e E w

/-- A region of which the operations in 'listed' have come up; whatever order is picked, it ends as Q says, without a panic. 'pre': the operations behind each of which W holds; the others wait for all of these. -/
def A (x : Cx) (ops : Array Oper) (pre : List Nat) (W : World → Prop) (Q : Exit → Env → World → Prop) (fuel : Nat) (listed : Array Bool) (E : Env) (w : World) : Prop :=
  dstsLt x.N ops.toList = true → Region.noSelect ops = true → (∀ (j : Nat) (o : Oper) c, ops[j]? = some o → o.op ≠ .defer c) → DC ops listed →
  ∀ a, Ag x.N E a → wpAnyS x.r x.P ops (lift x.N (np Q)) pre W fuel listed a w

def noDefer (ops : Array Oper) : Bool := ops.toList.all fun o => match o.op with | .defer _ => false | _ => true
theorem noDefer_spec {ops : Array Oper} (h : noDefer ops = true) : ∀ (j : Nat) (o : Oper) c, ops[j]? = some o → o.op ≠ .defer c := by
  intro j o c ho hc
  have := List.all_eq_true.1 h o (by simpa using Array.mem_of_getElem? ho)
  rw [hc] at this
  cases this

/-- A quiet operation: in every world that meets W it yields one value, and does nothing else. -/
def Y (x : Cx) (W : World → Prop) (o : Oper) (E : Env) (K : Value → Prop) : Prop :=
  ∃ v, (∀ a, Ag x.N E a → ∀ w, W w → (execOp a.eval o).run x.P w = .ok (.value v) w) ∧ K v

section
variable {x : Cx} {ops : Array Oper} {pre : List Nat} {W : World → Prop} {Q : Exit → Env → World → Prop} {E : Env} {w : World}

/-- The checks of a region, once: the order may be drawn; no select, no defer; the slots. -/
def drawOk (P : Program) (N : Nat) (ops : Array Oper) : Bool :=
  P.follows .mixedOrders && Region.noSelect ops && noDefer ops && dstsLt N ops.toList

theorem T_draw {id : Nat} {l : List Oper} (pre : List Nat) (W : World → Prop) (hm : drawOk x.P x.N l.toArray = true)
    (h : A x l.toArray pre W Q l.length (Array.replicate l.length false) E { w with drawn := w.drawn + 1 }) : T x (.region id l.toArray true) Q E w := by
  simp only [drawOk, Bool.and_eq_true] at hm
  obtain ⟨⟨⟨h1, h2⟩, h3⟩, h4⟩ := hm
  intro a ha
  refine wpIn_mono (wpIn_region_any h1 (wpAnyIn_of_S (pre := pre) (W := W) (Q := lift x.N (np Q)) _ _ _ _ ?_)) ?_
  · have := h h4 h2 (noDefer_spec h3) (fun j o _ hl => by
      simp only [Array.getD_eq_getD_getElem?] at hl
      rcases Nat.lt_or_ge j l.length with h' | h'
      · simp [h'] at hl
      · simp [h'] at hl) a ha
    simpa using this
  · rintro e a' w' ⟨E', hE, hq⟩
    refine ⟨E', hE, ?_⟩
    cases e <;> first | exact hq | exact hq.elim

theorem A_done {fuel : Nat} {listed : Array Bool} (hr : (Region.ready .any ops listed).isEmpty = true) (h : Q .normal E w) : A x ops pre W Q fuel listed E w := fun _ _ _ _ a ha => by
  have hr' : Region.ready .any ops listed = [] := by simpa using hr
  cases fuel with
  | zero => exact ⟨hr', E, ha, h⟩
  | succ n => exact ⟨fun _ => ⟨E, ha, h⟩, by rw [hr']; simp⟩

/-- Is the guard of o met, as far as E knows? -/
def gd (ops : Array Oper) (o : Oper) (E : Env) : Option Bool :=
  match o.guard with
  | none => some true
  | some (j, b) => ((ops[j]?).bind (·.dst)).bind fun d =>
    match eget E.l d with
    | some (.bool c) => some (c == b)
    | some _ => some false
    | none => none

theorem gd_spec {o : Oper} {b : Bool} (h : gd ops o E = some b) {a : Act} {N : Nat} (ha : Ag N E a) : Region.wanted o (yielded ops a.tmps) = b := by
  unfold gd at h
  unfold Region.wanted
  cases hg : o.guard with
  | none => rw [hg] at h; simpa using h
  | some p =>
    obtain ⟨j, want⟩ := p
    rw [hg] at h
    simp only at h ⊢
    unfold yielded
    cases hj : (ops[j]?).bind (·.dst) with
    | none => rw [hj] at h; cases h
    | some d =>
      rw [hj] at h
      simp only [Option.bind_some] at h ⊢
      cases he : eget E.l d with
      | none => rw [he] at h; cases h
      | some u =>
        rw [he] at h
        rw [ha.look d u he]
        cases u with
        | bool c => simp at h ⊢; rw [← h]
        | _ => simp at h ⊢; exact h

theorem dst_lt {i : Nat} {o : Oper} {N : Nat} (h : dstsLt N ops.toList = true) (hi : ops[i]? = some o) : ∀ d, o.dst = some d → d < N :=
  dstsLt_spec h o (by simpa using Array.mem_of_getElem? hi)

theorem lift_np_panic {N : Nat} {c : List PanicEntry} {a a' : Act} {w w' : World} (h : lift N (np Q) (.panic c) a w) : lift N (np Q) (.panic c) a' w' := by
  obtain ⟨_, _, h⟩ := h
  exact h.elim

theorem DC.ready {listed : Array Bool} (h : DC ops listed) {i : Nat} (hi : i ∈ Region.ready .any ops listed) : DC ops (listed.setIfInBounds i true) := by
  obtain ⟨_, oj, hoj, hall⟩ := mem_ready.1 hi
  exact h.set hoj hall

/-- May i be taken first? -/
def takeOk (ops : Array Oper) (pre : List Nat) (listed : Array Bool) (i : Nat) : Bool :=
  Region.free .any ops listed i && (Region.ready .any ops listed).contains i && (List.range ops.size).all fun j => Nat.beq j i || pre.contains j || listed.getD j true || anc ops ops.size j i
theorem takeOk_spec {listed : Array Bool} {i : Nat} (h : takeOk ops pre listed i = true) : Region.free .any ops listed i = true ∧ i ∈ Region.ready .any ops listed ∧ ∀ (j : Nat) (o : Oper), ops[j]? = some o → j ≠ i → pre.contains j = false → listed.getD j true = false → anc ops ops.size j i = true := by
  simp only [takeOk, Bool.and_eq_true] at h
  obtain ⟨⟨h1, h2⟩, h3⟩ := h
  refine ⟨h1, by simpa using h2, fun j o ho hji hc hun => ?_⟩
  have hj : j < ops.size := (Array.getElem?_eq_some_iff.1 ho).1
  have h4 := List.all_eq_true.1 h3 j (List.mem_range.2 hj)
  rw [hc, hun] at h4
  simp only [Bool.or_false, Bool.or_eq_true] at h4
  rcases h4 with h4 | h4
  · exact absurd (Nat.eq_of_beq_eq_true h4) hji
  · exact h4

/-- Take a quiet operation first. -/
theorem A_take (i : Nat) {t : Tmp} {op : Op} {ty : TypeId} {pos : String} {aft : Array Edge} {g : Option (Nat × Bool)} {D : List Deferred} {L : List (Nat × Value)} {fuel : Nat} {listed : Array Bool} (hi : ops[i]? = some ⟨some t, op, ty, pos, aft, g⟩)
    (hf : takeOk ops pre listed i = true) (hg : gd ops ⟨some t, op, ty, pos, aft, g⟩ ⟨D, L⟩ = some true) (hW : W w)
    (hy : Y x W ⟨some t, op, ty, pos, aft, g⟩ ⟨D, L⟩ fun v => A x ops pre W Q fuel (listed.setIfInBounds i true) ⟨D, (t, v) :: L⟩ w) : A x ops pre W Q (fuel + 1) listed ⟨D, L⟩ w := by
  intro h1 h2 h3 h4 a ha
  obtain ⟨v, hv, hK⟩ := hy
  obtain ⟨f1, f2, f3⟩ := takeOk_spec hf
  exact wpAnyS_first hi (Region.noSelect_spec h2) h3 (fun c a w => lift_np_panic) fuel listed a w (Region.free_spec hi f1) f2 f3 h4
    (.inl ⟨gd_spec hg ha, hv a ha⟩) hW (hK h1 h2 h3 (h4.ready f2) _ (ha.put (some t) _ (dst_lt h1 hi)))

/-- Take an operation first that yields in whatever world; it is not among 'pre'. -/
theorem A_pure (i : Nat) {t : Tmp} {op : Op} {ty : TypeId} {pos : String} {aft : Array Edge} {g : Option (Nat × Bool)} {D : List Deferred} {L : List (Nat × Value)} {fuel : Nat} {listed : Array Bool} (hi : ops[i]? = some ⟨some t, op, ty, pos, aft, g⟩)
    (hf : (Region.free .any ops listed i && (Region.ready .any ops listed).contains i && !pre.contains i) = true) (hg : gd ops ⟨some t, op, ty, pos, aft, g⟩ ⟨D, L⟩ = some true)
    (hy : Y x (fun _ => True) ⟨some t, op, ty, pos, aft, g⟩ ⟨D, L⟩ fun v => A x ops pre W Q fuel (listed.setIfInBounds i true) ⟨D, (t, v) :: L⟩ w) : A x ops pre W Q (fuel + 1) listed ⟨D, L⟩ w := by
  intro h1 h2 h3 h4 a ha
  obtain ⟨v, hv, hK⟩ := hy
  simp only [Bool.and_eq_true, Bool.not_eq_true'] at hf
  obtain ⟨⟨f1, f2⟩, f3⟩ := hf
  have f2' : i ∈ Region.ready .any ops listed := by simpa using f2
  exact wpAnyS_firstP hi (Region.noSelect_spec h2) h3 f3 (fun c a w => lift_np_panic) fuel listed a w (Region.free_spec hi f1) f2'
    (.inl ⟨gd_spec hg ha, fun w _ => hv a ha w trivial⟩) (hK h1 h2 h3 (h4.ready f2') _ (ha.put (some t) _ (dst_lt h1 hi)))

/-- Take an operation first that its guard passes over. -/
theorem A_skip (i : Nat) {t : Tmp} {op : Op} {ty : TypeId} {pos : String} {aft : Array Edge} {g : Option (Nat × Bool)} {D : List Deferred} {L : List (Nat × Value)} {fuel : Nat} {listed : Array Bool} (hi : ops[i]? = some ⟨some t, op, ty, pos, aft, g⟩)
    (hf : takeOk ops pre listed i = true) (hg : gd ops ⟨some t, op, ty, pos, aft, g⟩ ⟨D, L⟩ = some false) (hW : W w)
    (hK : A x ops pre W Q fuel (listed.setIfInBounds i true) ⟨D, (t, undef) :: L⟩ w) : A x ops pre W Q (fuel + 1) listed ⟨D, L⟩ w := by
  intro h1 h2 h3 h4 a ha
  obtain ⟨f1, f2, f3⟩ := takeOk_spec hf
  exact wpAnyS_first hi (Region.noSelect_spec h2) h3 (fun c a w => lift_np_panic) fuel listed a w (Region.free_spec hi f1) f2 f3 h4
    (.inr ⟨gd_spec hg ha, rfl⟩) hW (hK h1 h2 h3 (h4.ready f2) _ (ha.put (some t) _ (dst_lt h1 hi)))

/-- One of the operations that may come up now comes up. -/
def A1 (x : Cx) (ops : Array Oper) (pre : List Nat) (W : World → Prop) (Q : Exit → Env → World → Prop) (fuel : Nat) (listed : Array Bool) (E : Env) (w : World) (i : Nat) : Prop :=
  ∃ o, ops[i]? = some o ∧ gd ops o E = some true ∧ S x o (np Q) (fun v w' => (pre.contains i = true → W w') ∧ A x ops pre W Q fuel (listed.setIfInBounds i true) (E.put o.dst v) w') E w

theorem A_all (rs : List Nat) {fuel : Nat} {listed : Array Bool} (hr : (Region.ready .any ops listed == rs && !rs.isEmpty) = true)
    (h : ∀ i ∈ rs, A1 x ops pre W Q fuel listed E w i) : A x ops pre W Q (fuel + 1) listed E w := by
  intro h1 h2 h3 h4 a ha
  simp only [Bool.and_eq_true, beq_iff_eq, Bool.not_eq_true'] at hr
  obtain ⟨hr, hne⟩ := hr
  refine ⟨fun h0 => ?_, fun i hi => ?_⟩
  · rw [h0] at hr; subst hr; cases hne
  · have hi' := hi
    rw [hr] at hi
    obtain ⟨o, ho, hg, hS⟩ := h i hi
    unfold wpOpIn
    simp only [ho, gd_spec hg ha, if_true]
    exact hS a ha _ fun v w' ⟨hW, hA⟩ => ⟨hW, hA h1 h2 h3 (h4.ready hi') _ (ha.put _ _ (dst_lt h1 ho))⟩

theorem A_one (i : Nat) {o : Oper} {fuel : Nat} {listed : Array Bool} (hi : ops[i]? = some o) (hr : (Region.ready .any ops listed == [i]) = true) (hg : gd ops o E = some true)
    (h : S x o (np Q) (fun v w' => (pre.contains i = true → W w') ∧ A x ops pre W Q fuel (listed.setIfInBounds i true) (E.put o.dst v) w') E w) : A x ops pre W Q (fuel + 1) listed E w :=
  A_all [i] (by simpa using hr) fun j hj => by
    obtain rfl : j = i := by simpa using hj
    exact ⟨o, hi, hg, h⟩
theorem S_mono {o : Oper} {K K' : Value → World → Prop} (h : S x o Q K E w) (hk : ∀ v w, K v w → K' v w) : S x o Q K' E w :=
  fun a ha next hn => h a ha next fun v w' hv => hn v w' (hk v w' hv)

/-- There is but one that may come up now; W holds behind it. -/
theorem A_only (i : Nat) {t : Tmp} {op : Op} {ty : TypeId} {pos : String} {aft : Array Edge} {g : Option (Nat × Bool)} {D : List Deferred} {L : List (Nat × Value)} {fuel : Nat} {listed : Array Bool} (hi : ops[i]? = some ⟨some t, op, ty, pos, aft, g⟩)
    (hr : (Region.ready .any ops listed == [i]) = true) (hg : gd ops ⟨some t, op, ty, pos, aft, g⟩ ⟨D, L⟩ = some true)
    (h : S x ⟨some t, op, ty, pos, aft, g⟩ (np Q) (fun v w' => W w' ∧ A x ops pre W Q fuel (listed.setIfInBounds i true) ⟨D, (t, v) :: L⟩ w') ⟨D, L⟩ w) : A x ops pre W Q (fuel + 1) listed ⟨D, L⟩ w :=
  A_one i hi hr hg (S_mono h fun _ _ hv => ⟨fun _ => hv.1, hv.2⟩)
/-- There is but one that may come up now, and it is not among those of 'pre'. -/
theorem A_tail (i : Nat) {t : Tmp} {op : Op} {ty : TypeId} {pos : String} {aft : Array Edge} {g : Option (Nat × Bool)} {D : List Deferred} {L : List (Nat × Value)} {fuel : Nat} {listed : Array Bool} (hi : ops[i]? = some ⟨some t, op, ty, pos, aft, g⟩)
    (hr : (Region.ready .any ops listed == [i]) = true) (hp : pre.contains i = false) (hg : gd ops ⟨some t, op, ty, pos, aft, g⟩ ⟨D, L⟩ = some true)
    (h : S x ⟨some t, op, ty, pos, aft, g⟩ (np Q) (fun v w' => A x ops pre W Q fuel (listed.setIfInBounds i true) ⟨D, (t, v) :: L⟩ w') ⟨D, L⟩ w) : A x ops pre W Q (fuel + 1) listed ⟨D, L⟩ w :=
  A_one i hi hr hg (S_mono h fun _ _ hv => ⟨fun hc => (by rw [hp] at hc; cases hc), hv⟩)
theorem A_tailN (i : Nat) {op : Op} {ty : TypeId} {pos : String} {aft : Array Edge} {g : Option (Nat × Bool)} {fuel : Nat} {listed : Array Bool} (hi : ops[i]? = some ⟨none, op, ty, pos, aft, g⟩)
    (hr : (Region.ready .any ops listed == [i]) = true) (hp : pre.contains i = false) (hg : gd ops ⟨none, op, ty, pos, aft, g⟩ E = some true)
    (h : S x ⟨none, op, ty, pos, aft, g⟩ (np Q) (fun _ w' => A x ops pre W Q fuel (listed.setIfInBounds i true) E w') E w) : A x ops pre W Q (fuel + 1) listed E w :=
  A_one i hi hr hg (S_mono h fun _ _ hv => ⟨fun hc => (by rw [hp] at hc; cases hc), hv⟩)
/-- There are two. -/
theorem A_two (i j : Nat) {t t' : Tmp} {op op' : Op} {ty ty' : TypeId} {pos pos' : String} {aft aft' : Array Edge} {g g' : Option (Nat × Bool)} {D : List Deferred} {L : List (Nat × Value)} {fuel : Nat} {listed : Array Bool} (hi : ops[i]? = some ⟨some t, op, ty, pos, aft, g⟩) (hj : ops[j]? = some ⟨some t', op', ty', pos', aft', g'⟩)
    (hr : (Region.ready .any ops listed == [i, j]) = true) (hg : gd ops ⟨some t, op, ty, pos, aft, g⟩ ⟨D, L⟩ = some true) (hg' : gd ops ⟨some t', op', ty', pos', aft', g'⟩ ⟨D, L⟩ = some true)
    (h : S x ⟨some t, op, ty, pos, aft, g⟩ (np Q) (fun v w' => W w' ∧ A x ops pre W Q fuel (listed.setIfInBounds i true) ⟨D, (t, v) :: L⟩ w') ⟨D, L⟩ w)
    (h' : S x ⟨some t', op', ty', pos', aft', g'⟩ (np Q) (fun v w' => W w' ∧ A x ops pre W Q fuel (listed.setIfInBounds j true) ⟨D, (t', v) :: L⟩ w') ⟨D, L⟩ w) : A x ops pre W Q (fuel + 1) listed ⟨D, L⟩ w :=
  A_all [i, j] (by simpa using hr) fun k hk => by
    rcases (by simpa using hk : k = i ∨ k = j) with rfl | rfl
    · exact ⟨_, hi, hg, S_mono h fun _ _ hv => ⟨fun _ => hv.1, hv.2⟩⟩
    · exact ⟨_, hj, hg', S_mono h' fun _ _ hv => ⟨fun _ => hv.1, hv.2⟩⟩

theorem wpAnyS_mono {r : Option Nat} {P : Program} {ops : Array Oper} {Q : Exit → Act → World → Prop} {pre : List Nat} {W W' : World → Prop} (hW : ∀ w, W' w → W w) : ∀ (fuel : Nat) (listed : Array Bool) (a : Act) (w : World), wpAnyS r P ops Q pre W' fuel listed a w → wpAnyS r P ops Q pre W fuel listed a w
  | 0, _, _, _, h => h
  | fuel + 1, _, _, _, h => ⟨h.1, fun i hi => wpOpIn_mono (fun _ _ h' => ⟨fun hp => hW _ (h'.1 hp), wpAnyS_mono hW fuel _ _ _ h'.2⟩) (h.2 i hi)⟩
/-- From here on more is known to hold. -/
theorem A_more (W' : World → Prop) {fuel : Nat} {listed : Array Bool} (hW : ∀ w, W' w → W w) (h : A x ops pre W' Q fuel listed E w) : A x ops pre W Q fuel listed E w :=
  fun h1 h2 h3 h4 a ha => wpAnyS_mono hW _ _ _ _ (h h1 h2 h3 h4 a ha)

theorem A_keep {D : List Deferred} {M : List (Nat × Value)} {fuel : Nat} {listed : Array Bool} (hr : (Region.ready .any ops listed).isEmpty = true) (L : List (Nat × Value)) {c : Code} (hs : subL L M) (h : T x c Q ⟨D, L⟩ w) :
    A x ops pre W (sq (T x c Q) Q) fuel listed ⟨D, M⟩ w := A_done hr (T_sub L hs h)

/-- A quiet operation in a region in the text's order. -/
theorem S_y {o : Oper} {K : Value → World → Prop} (hW : W w) (hd : notDefer o.op = true) (h : Y x W o E fun v => K v w) : S x o Q K E w := by
  obtain ⟨v, hv, hK⟩ := h
  intro a ha next hn
  refine ⟨fun _ _ => trivial, ?_⟩
  rw [Oper.semAt_eq _ _ _ (fun c hc => by rw [hc] at hd; cases hd), hv a ha w hW]
  exact hn _ _ hK
theorem O_y {t : Tmp} {op : Op} {ty : TypeId} {pos : String} {aft : Array Edge} {l : List Oper} {D : List Deferred} {L : List (Nat × Value)} (hW : W w)
    (h : Y x W ⟨some t, op, ty, pos, aft, none⟩ ⟨D, L⟩ fun v => O x ops Q l ⟨D, (t, v) :: L⟩ w) (hd : notDefer op = true := by rfl) : O x ops Q (⟨some t, op, ty, pos, aft, none⟩ :: l) ⟨D, L⟩ w :=
  O_s (S_y hW hd h)
theorem O_yy (d : Nat) {t : Tmp} {op : Op} {ty : TypeId} {pos : String} {aft : Array Edge} {l : List Oper} {D : List Deferred} {L : List (Nat × Value)} {j : Nat} {b : Bool} (hW : W w) (hj : (ops[j]?).bind (·.dst) = some d) (hb : eget L d = some (.bool b))
    (h : Y x W ⟨some t, op, ty, pos, aft, some (j, b)⟩ ⟨D, L⟩ fun v => O x ops Q l ⟨D, (t, v) :: L⟩ w) (hd : notDefer op = true := by rfl) : O x ops Q (⟨some t, op, ty, pos, aft, some (j, b)⟩ :: l) ⟨D, L⟩ w :=
  O_yes d hj hb (S_y hW hd h)
end
end Go.Ex
