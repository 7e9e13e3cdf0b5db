/- The frame calculus of this work: environments of known temporaries over the fenced calculus. -/
import Derived.TacticsIn
import Derived.OrdersIn
import Derived.OrdersHeld
import Derived.Below
import Derived.KernelRfl
namespace Go.Ex
open Go

/-- The fence that lets everything by, in round r. -/
def RF (r : Option Nat) : Fence := { fn := fun _ => True, depth := none, alive := false, round := r }

/-- What is known of a frame: its deferred calls, and the values of some temporaries. -/
structure Env where
  d : List Deferred
  l : List (Nat × Value)

def eget : List (Nat × Value) → Nat → Option Value
  | [], _ => none
  | (k, v) :: E, t => bif Nat.beq k t then some v else eget E t

def ev (E : Env) : Operand → Option Value
  | .tmp t => eget E.l t
  | .const v => some v
  | .global g => some (.pointer (some ⟨g, 0, none⟩))
  | .func f => some (.func (.func f) #[] #[])

def Env.put (E : Env) (d : Option Tmp) (v : Value) : Env :=
  match d with
  | none => E
  | some t => ⟨E.d, (t, v) :: E.l⟩

def subL : List (Nat × Value) → List (Nat × Value) → Prop
  | [], _ => True
  | (t, v) :: L, E => eget E t = some v ∧ subL L E

theorem subL_get : ∀ {L E : List (Nat × Value)}, subL L E → ∀ t v, eget L t = some v → eget E t = some v
  | [], _, _, _, _, h => by cases h
  | (k, u) :: L, E, ⟨h1, h2⟩, t, v, h => by
    unfold eget at h
    cases hb : Nat.beq k t with
    | true =>
      rw [hb] at h
      obtain rfl := Nat.eq_of_beq_eq_true hb
      simp at h; subst h; exact h1
    | false => rw [hb] at h; exact subL_get h2 t v (by simpa using h)

/-- Frame 'a' has 'N' temporaries and is as 'E' says. -/
structure Ag (N : Nat) (E : Env) (a : Act) : Prop where
  size : a.tmps.size = N
  defs : a.defers = E.d
  look : ∀ t v, eget E.l t = some v → a.tmps[t]? = some v

section
variable {N : Nat} {E : Env} {a : Act}

theorem Ag.ev (h : Ag N E a) {o : Operand} {v : Value} (ho : ev E o = some v) : a.eval o = v := by
  cases o with
  | tmp t =>
    have := h.look t v ho
    simp [Act.eval, this]
  | const u => simpa [Ex.ev, Act.eval] using ho
  | global g => simpa [Ex.ev, Act.eval] using ho
  | func f => simpa [Ex.ev, Act.eval] using ho

theorem Ag.put (h : Ag N E a) (d : Option Tmp) (v : Value) (hd : ∀ t, d = some t → t < N) : Ag N (E.put d v) (a.put d v) := by
  cases d with
  | none => exact h
  | some t =>
    have ht := hd t rfl
    refine ⟨by simp [Act.put, h.size], h.defs, fun k u hk => ?_⟩
    simp only [Env.put, eget] at hk
    simp only [Act.put]
    cases hb : Nat.beq t k with
    | true =>
      rw [hb] at hk
      obtain rfl := Nat.eq_of_beq_eq_true hb
      simp at hk; subst hk
      rw [Array.getElem?_setIfInBounds_self_of_lt (by rw [h.size]; exact ht)]
    | false =>
      rw [hb] at hk
      have hne : t ≠ k := Nat.ne_of_beq_eq_false hb
      rw [Array.getElem?_setIfInBounds_ne hne]
      exact h.look k u (by simpa using hk)

theorem Ag.sub {L : List (Nat × Value)} (h : Ag N E a) (hs : subL L E.l) : Ag N ⟨E.d, L⟩ a :=
  ⟨h.size, h.defs, fun t v ht => h.look t v (subL_get hs t v ht)⟩
end

/-- The program, the number of temporaries, the round. -/
structure Cx where
  P : Program
  N : Nat
  r : Option Nat

def lift (N : Nat) (Q : Exit → Env → World → Prop) : Exit → Act → World → Prop := fun e a w => ∃ E, Ag N E a ∧ Q e E w

/-- Code 'c', begun in a frame of which 'E' is known, ends as 'Q' says. -/
def T (x : Cx) (c : Code) (Q : Exit → Env → World → Prop) (E : Env) (w : World) : Prop :=
  ∀ a, Ag x.N E a → c.wpIn (RF x.r) 0 x.P (lift x.N Q) a w

@[reducible] def sq (K : Env → World → Prop) (Q : Exit → Env → World → Prop) : Exit → Env → World → Prop
  | .normal, E, w => K E w
  | e, E, w => Q e E w

@[reducible] def bk (id : Nat) (Q : Exit → Env → World → Prop) : Exit → Env → World → Prop
  | .exit id', E, w => bif Nat.beq id' id then Q .normal E w else Q (.exit id') E w
  | e, E, w => Q e E w

@[reducible] def lp (I : Nat → Env → World → Prop) (n : Nat) (Q : Exit → Env → World → Prop) : Exit → Env → World → Prop
  | .normal, E, w => ∃ m, m < n ∧ ∃ L, subL L E.l ∧ I m ⟨E.d, L⟩ w
  | e, E, w => Q e E w

section
variable {x : Cx} {Q : Exit → Env → World → Prop} {E : Env} {w : World}

theorem T_mono {c : Code} {Q' : Exit → Env → World → Prop} (h : T x c Q E w) (hq : ∀ e E w, Q e E w → Q' e E w) : T x c Q' E w :=
  fun a ha => wpIn_mono (h a ha) fun e _ _ ⟨E', h1, h2⟩ => ⟨E', h1, hq e _ _ h2⟩

theorem T_seq {c d : Code} (h : T x c (sq (T x d Q) Q) E w) : T x (.seq c d) Q E w := fun a ha =>
  wpIn_seq (wpIn_mono (h a ha) fun e a' w' ⟨E', hE, hq⟩ => by
    cases e with
    | normal => exact hq a' hE
    | _ => exact ⟨E', hE, hq⟩)

/-- What stands ahead comes to K; what follows begins there. -/
theorem T_join (K : Env → World → Prop) {c d : Code} (h : T x c (sq K Q) E w) (hk : ∀ E w, K E w → T x d Q E w) : T x (.seq c d) Q E w :=
  T_seq (T_mono h fun e E w hq => by cases e <;> first | exact hk _ _ hq | exact hq)

theorem T_skip (h : Q .normal E w) : T x .skip Q E w := fun _ ha => wpIn_skip ⟨E, ha, h⟩
theorem T_exit {id : Nat} (h : Q (.exit id) E w) : T x (.exit id) Q E w := fun _ ha => wpIn_exit ⟨E, ha, h⟩
theorem T_goto {l : Nat} (h : Q (.goto l) E w) : T x (.goto l) Q E w := fun _ ha => wpIn_goto ⟨E, ha, h⟩
theorem T_label {l : Nat} (h : Q .normal E w) : T x (.label l) Q E w := fun _ ha => wpIn_label ⟨E, ha, h⟩
theorem T_ret (h : Q .ret E w) : T x .ret Q E w := fun _ ha => wpIn_ret ⟨E, ha, h⟩

theorem T_cond {c : Operand} {b : Bool} {p q : Code} (hc : ev E c = some (.bool b)) (h : T x (if b then p else q) Q E w) : T x (.cond c p q) Q E w :=
  fun a ha => wpIn_cond (ha.ev hc) (h a ha)
theorem T_condT {c : Operand} {p q : Code} (hc : ev E c = some (.bool true)) (h : T x p Q E w) : T x (.cond c p q) Q E w := T_cond hc h
theorem T_condF {c : Operand} {p q : Code} (hc : ev E c = some (.bool false)) (h : T x q Q E w) : T x (.cond c p q) Q E w := T_cond hc h
theorem T_condS {c : Operand} {b : Bool} {p q : Code} (hc : ev E c = some (.bool b)) (h1 : b = true → T x p Q E w) (h2 : b = false → T x q Q E w) : T x (.cond c p q) Q E w := by
  cases b with
  | true => exact T_condT hc (h1 rfl)
  | false => exact T_condF hc (h2 rfl)

theorem T_block {id : Nat} {c : Code} (h : T x c (bk id Q) E w) : T x (.block id c) Q E w := fun a ha =>
  wpIn_block (wpIn_mono (h a ha) fun e a' w' ⟨E', hE, hq⟩ => by
    cases e with
    | exit id' =>
      simp only [bk] at hq
      simp only [Exit.inBlock]
      cases hb : Nat.beq id' id with
      | true =>
        rw [hb] at hq
        obtain rfl := Nat.eq_of_beq_eq_true hb
        simp only [if_true]
        exact ⟨E', hE, by simpa using hq⟩
      | false =>
        rw [hb] at hq
        rw [if_neg (Nat.ne_of_beq_eq_false hb)]
        exact ⟨E', hE, by simpa using hq⟩
    | _ => exact ⟨E', hE, hq⟩)

@[reducible] def ng (Q : Exit → Env → World → Prop) : Exit → Env → World → Prop
  | .goto _, _, _ => False
  | e, E, w => Q e E w

theorem stepR_scope {P : Program} {b : Frame} {a : Act} {k : List Item} {cs : List Frame} {w : World} {c : Code} : step P (lone (b.atR a (.code (.scope c) :: k)) cs w) = .next (lone (b.atR a (.code c :: .inScope c :: k)) cs w) :=
  step_lone_go (by simp [stepG, stepG.exec, Frame.atR])
theorem stepR_inScope {P : Program} {b : Frame} {a : Act} {k : List Item} {cs : List Frame} {w : World} {c : Code} : step P (lone (b.atR a (.inScope c :: k)) cs w) = .next (lone (b.atR a k) cs w) :=
  step_lone_go (by simp [stepG, stepG.exec, Frame.atR])

/-- A block of labels to which nothing jumps. -/
theorem T_scope {c : Code} (h : T x c (ng Q) E w) : T x (.scope c) Q E w := by
  intro a ha b k cs hro hb hr
  have h0 : (lone (b.atR a (.code (.scope c) :: k)) cs w).fenced x.P (RF x.r) := fenced_calm hb hr rfl
  obtain ⟨e, a₁, w₁, ⟨E₁, hE₁, hq⟩, harr⟩ := h a ha b (.inScope c :: k) cs hro hb hr
  cases e with
  | normal => exact ⟨.normal, a₁, w₁, ⟨E₁, hE₁, hq⟩, .head h0 stepR_scope (StepsIn.trans harr (.one (fenced_calm hb hr rfl) stepR_inScope))⟩
  | exit id =>
    have hx : exitTo id (.inScope c :: k) = exitTo id k := by simp [exitTo]
    exact ⟨_, a₁, w₁, ⟨E₁, hE₁, hq⟩, fun k' hk => .head h0 stepR_scope (harr.1 k' (by rw [hx]; exact hk)),
      fun hr' hk => let ⟨k₁, h1, h2⟩ := harr.2 hr' (by rw [hx]; exact hk); ⟨k₁, h1, .head h0 stepR_scope h2⟩⟩
  | goto l => exact hq.elim
  | ret => exact ⟨_, a₁, w₁, ⟨E₁, hE₁, hq⟩, .of_steps (.one h0 stepR_scope) harr⟩
  | panic ch => exact ⟨_, a₁, w₁, ⟨E₁, hE₁, hq⟩, .of_steps (.one h0 stepR_scope) harr⟩
  | outgrown => exact ⟨_, a₁, w₁, ⟨E₁, hE₁, hq⟩, .of_steps (.one h0 stepR_scope) harr⟩

theorem T_sub (L : List (Nat × Value)) {D : List Deferred} {M : List (Nat × Value)} {c : Code} (hs : subL L M) (h : T x c Q ⟨D, L⟩ w) : T x c Q ⟨D, M⟩ w := fun a ha => h a (ha.sub (E := ⟨D, M⟩) hs)

theorem T_loop {c : Code} (I : Nat → Env → World → Prop) {n0 : Nat} {D : List Deferred} {M L : List (Nat × Value)} (hL : subL L M) (h0 : I n0 ⟨D, L⟩ w)
    (hstep : ∀ n E w, I n E w → T x c (lp I n Q) E w) : T x (.loop c) Q ⟨D, M⟩ w := fun a ha => by
  intro b k cs hro hb hr
  have key : ∀ n a w E, Ag x.N E a → I n E w →
      ∃ e a' w', lift x.N Q e a' w' ∧ ArrivesIn (Machine.fenced x.P (RF x.r)) x.P (lone (b.atR a (.code c :: .inLoop c :: k)) cs w) b k cs e a' w' := by
    intro n
    induction n using Nat.strongRecOn with
    | _ n ih =>
      intro a w E ha hI
      obtain ⟨e, a₁, w₁, ⟨E₁, hE₁, hq⟩, harr⟩ := hstep n E w hI a ha b (.inLoop c :: k) cs hro hb hr
      cases e with
      | normal =>
        obtain ⟨m, hm, L, hL, hIm⟩ := hq
        obtain ⟨e₂, a₂, w₂, hq₂, harr₂⟩ := ih m hm a₁ w₁ _ (hE₁.sub hL) hIm
        exact ⟨e₂, a₂, w₂, hq₂, .of_steps (StepsIn.trans harr (.one (fenced_calm hb hr rfl) stepR_inLoop)) harr₂⟩
      | exit id => exact ⟨_, a₁, w₁, ⟨E₁, hE₁, hq⟩, .pass (x := .inLoop c) rfl (fun _ _ => .inl (by simp)) harr⟩
      | goto l => exact ⟨_, a₁, w₁, ⟨E₁, hE₁, hq⟩, .pass (x := .inLoop c) rfl (fun _ _ => .inl (by simp)) harr⟩
      | ret => exact ⟨_, a₁, w₁, ⟨E₁, hE₁, hq⟩, .pass (x := .inLoop c) rfl (fun _ _ => .inl (by simp)) harr⟩
      | panic ch => exact ⟨_, a₁, w₁, ⟨E₁, hE₁, hq⟩, .pass (x := .inLoop c) rfl (fun _ _ => .inl (by simp)) harr⟩
      | outgrown => exact ⟨_, a₁, w₁, ⟨E₁, hE₁, hq⟩, .pass (x := .inLoop c) rfl (fun _ _ => .inl (by simp)) harr⟩
  obtain ⟨e, a', w', hq, harr⟩ := key n0 a w _ (ha.sub (E := ⟨D, M⟩) hL) h0
  exact ⟨e, a', w', hq, .of_steps (.one (fenced_calm hb hr rfl) stepR_loop) harr⟩

def notDefer : Op → Bool
  | .defer _ => false
  | _ => true

/-! ### Operations -/

/-- One operation: whatever frame fits E, it yields a value v and a world w' with 'K v w''; or it leaves by a panic. -/
def S (x : Cx) (o : Oper) (Q : Exit → Env → World → Prop) (K : Value → World → Prop) (E : Env) (w : World) : Prop :=
  ∀ a, Ag x.N E a → ∀ next : Act → World → Prop, (∀ v w', K v w' → next (a.put o.dst v) w') → o.wpIn (RF x.r) 0 x.P a w next (lift x.N Q)

def O (x : Cx) (ops : Array Oper) (Q : Exit → Env → World → Prop) (l : List Oper) (E : Env) (w : World) : Prop :=
  (∀ o ∈ l, ∀ d, o.dst = some d → d < x.N) → ∀ a, Ag x.N E a → wpListIn (RF x.r) 0 x.P ops (lift x.N Q) l a w

def dstsLt (N : Nat) (l : List Oper) : Bool := l.all fun o => match o.dst with | some d => Nat.blt d N | none => true

theorem dstsLt_spec {N : Nat} {l : List Oper} (h : dstsLt N l = true) : ∀ o ∈ l, ∀ d, o.dst = some d → d < N := by
  intro o ho d hd
  have := List.all_eq_true.1 h o ho
  simp only [hd] at this
  simpa [Nat.blt_eq] using this

theorem T_region {id : Nat} {l : List Oper} (hd : dstsLt x.N l = true) (h : O x l.toArray Q l E w) : T x (.region id l.toArray false) Q E w :=
  fun a ha => wpIn_region_lit (h (dstsLt_spec hd) a ha)

theorem O_nil {ops : Array Oper} (h : Q .normal E w) : O x ops Q [] E w := fun _ _ ha => wpListIn_nil ⟨E, ha, h⟩
theorem O_done {ops : Array Oper} {K : Env → World → Prop} (h : K E w) : O x ops (sq K Q) [] E w := fun _ _ ha => wpListIn_nil ⟨E, ha, h⟩
/-- Forget what is not in L, at the end of a region. -/
theorem O_keep {ops : Array Oper} {D : List Deferred} {M : List (Nat × Value)} (L : List (Nat × Value)) {c : Code} (hs : subL L M) (h : T x c Q ⟨D, L⟩ w) : O x ops (sq (T x c Q) Q) [] ⟨D, M⟩ w :=
  O_done (T_sub L hs h)

theorem O_s {ops : Array Oper} {t : Tmp} {op : Op} {ty : TypeId} {pos : String} {aft : Array Edge} {l : List Oper} {D : List Deferred} {L : List (Nat × Value)}
    (h : S x ⟨some t, op, ty, pos, aft, none⟩ Q (fun v w' => O x ops Q l ⟨D, (t, v) :: L⟩ w') ⟨D, L⟩ w) : O x ops Q (⟨some t, op, ty, pos, aft, none⟩ :: l) ⟨D, L⟩ w := by
  intro hd a ha
  refine wpListIn_plain rfl fun K hK => h a ha K fun v w' hv => hK _ _ ?_
  exact hv (fun o' ho' => hd o' (List.mem_cons_of_mem _ ho')) _ (ha.put (some t) _ (hd _ List.mem_cons_self))
/-- The same for an operation that yields nothing. -/
theorem O_n {ops : Array Oper} {op : Op} {ty : TypeId} {pos : String} {aft : Array Edge} {l : List Oper}
    (h : S x ⟨none, op, ty, pos, aft, none⟩ Q (fun _ w' => O x ops Q l E w') E w) : O x ops Q (⟨none, op, ty, pos, aft, none⟩ :: l) E w := by
  intro hd a ha
  refine wpListIn_plain rfl fun K hK => h a ha K fun v w' hv => hK _ _ ?_
  exact hv (fun o' ho' => hd o' (List.mem_cons_of_mem _ ho')) _ (ha.put none _ (hd _ List.mem_cons_self))

/-- The operation's guard says yes. -/
theorem O_yes (d : Nat) {ops : Array Oper} {t : Tmp} {op : Op} {ty : TypeId} {pos : String} {aft : Array Edge} {l : List Oper} {D : List Deferred} {L : List (Nat × Value)} {j : Nat} {b : Bool} (hj : (ops[j]?).bind (·.dst) = some d) (hb : eget L d = some (.bool b))
    (h : S x ⟨some t, op, ty, pos, aft, some (j, b)⟩ Q (fun v w' => O x ops Q l ⟨D, (t, v) :: L⟩ w') ⟨D, L⟩ w) : O x ops Q (⟨some t, op, ty, pos, aft, some (j, b)⟩ :: l) ⟨D, L⟩ w := by
  intro hd a ha
  have hw : Region.wanted (⟨some t, op, ty, pos, aft, some (j, b)⟩ : Oper) (yielded ops a.tmps) = true := by
    simp only [Region.wanted, yielded, hj, Option.bind_some, ha.look d _ hb]
    simp
  refine wpListIn_step fun K hK => ?_
  rw [if_pos hw]
  refine h a ha K fun v w' hv => hK _ _ ?_
  exact hv (fun o' ho' => hd o' (List.mem_cons_of_mem _ ho')) _ (ha.put (some t) _ (hd _ List.mem_cons_self))

/-- The operation's guard says no. -/
theorem O_no (d : Nat) {ops : Array Oper} {t : Tmp} {op : Op} {ty : TypeId} {pos : String} {aft : Array Edge} {l : List Oper} {D : List Deferred} {L : List (Nat × Value)} {j : Nat} {b : Bool} (hj : (ops[j]?).bind (·.dst) = some d) (hb : eget L d = some (.bool (!b)))
    (h : O x ops Q l ⟨D, (t, undef) :: L⟩ w) : O x ops Q (⟨some t, op, ty, pos, aft, some (j, b)⟩ :: l) ⟨D, L⟩ w := by
  intro hd a ha
  have hw : Region.wanted (⟨some t, op, ty, pos, aft, some (j, b)⟩ : Oper) (yielded ops a.tmps) = false := by
    simp only [Region.wanted, yielded, hj, Option.bind_some, ha.look d _ hb]
    cases b <;> rfl
  refine wpListIn_step fun K hK => ?_
  rw [hw]
  simp only [Bool.false_eq_true, if_false]
  exact ⟨fun _ _ => trivial, hK _ _ (h (fun o' ho' => hd o' (List.mem_cons_of_mem _ ho')) _ (ha.put (some t) _ (hd _ List.mem_cons_self)))⟩
end
end Go.Ex
