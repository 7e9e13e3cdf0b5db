/- Package regex: what is parsed are the nodes of a tree. -/
import Derived.Test.YtkmgbcjfidpmgaaGreatDoorText
namespace Go.Proofs.YtkmgbcjfidpmgaaGreatDoor
open Go Go.Ex

theorem classL_cls {s : List UInt8} : ∀ (f : Nat) (c : List Nat) (p q : Nat) (c2 : List Nat), ClsOk c → classL s f c p = some (.ok (c2, q)) → ClsOk c2
  | 0, _, _, _, _, _, h => by cases h
  | f + 1, c, p, q, c2, hc, h => by
    rw [classL] at h
    split at h
    · have h := Except.ok.inj (Option.some.inj h); injection h with h1 h2; exact h1 ▸ hc
    · split at h
      · cases h
      · split at h
        · split at h
          · cases h
          · split at h
            · cases h
            · exact classL_cls f _ _ _ _ (union_ok' hc (range_ok' _ _)) h
        · exact classL_cls f _ _ _ _ (union_ok' hc (range_ok' _ _)) h
theorem classP_cls {s : List UInt8} {f p q : Nat} {c : List Nat} (h : classP s f p = some (.ok (c, q))) : ClsOk c := by
  unfold classP at h
  split at h
  · cases h1 : classL s f noC (p + 1) with
    | none => rw [h1] at h; cases h
    | some r =>
      rw [h1] at h
      cases r with
      | error e => cases h
      | ok z =>
        obtain ⟨c0, q0⟩ := z
        have h := Except.ok.inj (Option.some.inj h); injection h with h2 h3
        exact h2 ▸ not_ok' (classL_cls f _ _ _ _ noC_ok h1)
  · exact classL_cls f _ _ _ _ noC_ok h
theorem boundsP_rng {s : List UInt8} {p q : Nat} {a b : Int} (h : boundsP s p = .ok (a, b, q)) : 0 ≤ a ∧ a ≤ 16 ∧ b ≤ 16 ∧ (b = -1 ∨ a ≤ b) := by
  unfold boundsP at h
  cases h1 : numP s p with
  | error e => rw [h1] at h; cases h
  | ok z =>
    obtain ⟨n, p1⟩ := z
    have hn := (numP_ok h1).2.2
    rw [h1] at h; dsimp only at h
    cases h2 : expP s p1 44 with
    | error e => rw [h2] at h; cases h
    | ok p2 =>
      rw [h2] at h; dsimp only at h
      split at h
      · have h := Except.ok.inj h; injection h with h3 h4; injection h4 with h4 h5
        subst h3 h4; omega
      · cases h6 : numP s p2 with
        | error e => rw [h6] at h; cases h
        | ok z =>
          obtain ⟨n2, p3⟩ := z
          have hn2 := (numP_ok h6).2.2
          rw [h6] at h; dsimp only at h
          split at h
          · cases h
          · cases h7 : expP s p3 125 with
            | error e => rw [h7] at h; cases h
            | ok p4 =>
              rw [h7] at h; dsimp only at h
              have h := Except.ok.inj h; injection h with h3 h4; injection h4 with h4 h5
              subst h3 h4; omega
theorem sufP_rng {s : List UInt8} {p q : Nat} {a b : Int} (h : sufP s p = .ok (some (a, b, q))) : 0 ≤ a ∧ a ≤ 16 ∧ b ≤ 16 ∧ (b = -1 ∨ a ≤ b) := by
  unfold sufP at h
  split at h
  · injection h with h; injection h with h; injection h with h1 h2; injection h2 with h2 h3; subst h1 h2; omega
  · split at h
    · injection h with h; injection h with h; injection h with h1 h2; injection h2 with h2 h3; subst h1 h2; omega
    · split at h
      · injection h with h; injection h with h; injection h with h1 h2; injection h2 with h2 h3; subst h1 h2; omega
      · split at h
        · cases h1 : boundsP s (p + 1) with
          | error e => rw [h1] at h; cases h
          | ok z =>
            obtain ⟨a', b', q'⟩ := z
            rw [h1] at h
            injection h with h; injection h with h; injection h with h2 h3; injection h3 with h3 h4
            subst h2 h3; exact boundsP_rng h1
        · injection h with h; cases h

/-- A tree has come up. -/
def In (st st1 : PS) (x : Int) : Prop := ∃ t, TreeOk t ∧ st1.nodes = st.nodes ++ nodesT st.nodes.length t ∧ x = (st1.nodes.length : Int) - 1
def InL (st st1 : PS) (l x : Int) : Prop := ∀ (base : List NodeV) (t0 : Rg), TreeOk t0 → st.nodes = base ++ nodesT base.length t0 → l = (st.nodes.length : Int) - 1 → ∃ t, TreeOk t ∧ st1.nodes = base ++ nodesT base.length t ∧ x = (st1.nodes.length : Int) - 1
theorem In.two {st st1 st2 : PS} {l x : Int} (h1 : In st st1 l) (h2 : InL st1 st2 l x) : In st st2 x := by
  obtain ⟨t, h3, h4, h5⟩ := h1
  exact h2 st.nodes t h3 h4 h5
/-- One round of a chain of operands. -/
theorem InL.round {mk : Rg → Rg → Rg} {k : Int} (hok : ∀ a b, TreeOk a → TreeOk b → TreeOk (mk a b))
    (hn : ∀ o a b, nodesT o (mk a b) = nodesT o a ++ nodesT (o + sizeT a) b ++ [binN k ((o + sizeT a : Nat) - 1) ((o + sizeT a + sizeT b : Nat) - 1)])
    {st sta st1 st2 : PS} {l r x : Int} (ha : sta.nodes = st.nodes) (h1 : In sta st1 r) (h2 : InL (st1.emit (binN k l r)) st2 st1.last x) : InL st st2 l x := by
  intro base t0 ht0 hst hl
  obtain ⟨t1, h3, h4, h5⟩ := h1
  rw [ha] at h4
  refine h2 base (mk t0 t1) (hok _ _ ht0 h3) ?_ ?_
  · have e1 : st.nodes.length = base.length + sizeT t0 := by rw [hst, List.length_append, nodesT_len]
    have e2 : st1.nodes.length = base.length + sizeT t0 + sizeT t1 := by rw [h4, List.length_append, nodesT_len, e1]
    show st1.nodes ++ [binN k l r] = _
    rw [hn, h5, hl, e2, e1, h4, e1, hst]
    simp [List.append_assoc]
  · rw [emit_n]; unfold PS.last; omega
theorem in_leaf {st : PS} {p : Nat} {t : Rg} {n : NodeV} (ht : TreeOk t) (hn : ∀ o, nodesT o t = [n]) : In st ((st.at p).emit n) st.last := by
  refine ⟨t, ht, by rw [hn]; rfl, ?_⟩
  rw [emit_n, at_n]; unfold PS.last; omega

theorem tree_all (s : List UInt8) : ∀ f : Nat, (∀ st x st1, altF s f st = some (.ok (x, st1)) → In st st1 x) ∧ (∀ l st x st1, altL s f l st = some (.ok (x, st1)) → InL st st1 l x) ∧ (∀ st x st1, andF s f st = some (.ok (x, st1)) → In st st1 x) ∧ (∀ l st x st1, andL s f l st = some (.ok (x, st1)) → InL st st1 l x) ∧
    (∀ st x st1, catF s f st = some (.ok (x, st1)) → In st st1 x) ∧ (∀ l st x st1, catL s f l st = some (.ok (x, st1)) → InL st st1 l x) ∧ (∀ st x st1, itemF s f st = some (.ok (x, st1)) → In st st1 x) ∧ (∀ l st x st1, itemL s f l st = some (.ok (x, st1)) → InL st st1 l x) ∧ (∀ st x st1, atomF s f st = some (.ok (x, st1)) → In st st1 x) := by
  intro f
  induction f with
  | zero =>
    refine ⟨?_, ?_, ?_, ?_, ?_, ?_, ?_, ?_, ?_⟩ <;> intros <;> rename_i h <;> simp only [altF, altL, andF, andL, catF, catL, itemF, itemL, atomF] at h <;> cases h
  | succ f ih =>
    obtain ⟨i1, i2, i3, i4, i5, i6, i7, i8, i9⟩ := ih
    have first : ∀ {F : PS → PRes} {L : Int → PS → PRes} (hF : ∀ st x st1, F st = some (.ok (x, st1)) → In st st1 x) (hL : ∀ l st x st1, L l st = some (.ok (x, st1)) → InL st st1 l x) (st : PS) (x : Int) (st1 : PS),
        (match F st with | none => none | some (.error e) => some (.error e) | some (.ok (l, st1)) => L l st1 : PRes) = some (.ok (x, st1)) → In st st1 x := by
      intro F L hF hL st x st1 h
      cases h1 : F st with
      | none => rw [h1] at h; cases h
      | some r =>
        cases r with
        | error e => rw [h1] at h; cases h
        | ok q =>
          obtain ⟨l, st2⟩ := q
          rw [h1] at h
          exact In.two (hF st l st2 h1) (hL l st2 x st1 h)
    have rounds : ∀ {F : PS → PRes} {L : Int → PS → PRes} {mk : Rg → Rg → Rg} (k : Int) (hok : ∀ a b, TreeOk a → TreeOk b → TreeOk (mk a b)) (hn : ∀ o a b, nodesT o (mk a b) = nodesT o a ++ nodesT (o + sizeT a) b ++ [binN k ((o + sizeT a : Nat) - 1) ((o + sizeT a + sizeT b : Nat) - 1)])
        (hF : ∀ st x st1, F st = some (.ok (x, st1)) → In st st1 x) (hL : ∀ l st x st1, L l st = some (.ok (x, st1)) → InL st st1 l x) (st sta : PS) (l : Int) (x : Int) (st1 : PS), sta.nodes = st.nodes →
        (match F sta with | none => none | some (.error e) => some (.error e) | some (.ok (r, st1)) => L st1.last (st1.emit (binN k l r)) : PRes) = some (.ok (x, st1)) → InL st st1 l x := by
      intro F L mk k hok hn hF hL st sta l x st1 hsa h
      cases h1 : F sta with
      | none => rw [h1] at h; cases h
      | some r =>
        cases r with
        | error e => rw [h1] at h; cases h
        | ok q =>
          obtain ⟨r, st2⟩ := q
          rw [h1] at h
          exact InL.round hok hn hsa (hF sta r st2 h1) (hL _ _ x st1 h)
    have stop : ∀ (l : Int) (st : PS) (x : Int) (st1 : PS), (some (.ok (l, st)) : PRes) = some (.ok (x, st1)) → InL st st1 l x := by
      intro l st x st1 h base t0 h0 hst hl
      have h := Except.ok.inj (Option.some.inj h); injection h with h1 h2
      subst h1 h2
      exact ⟨t0, h0, hst, hl⟩
    refine ⟨?_, ?_, ?_, ?_, ?_, ?_, ?_, ?_, ?_⟩
    · intro st x st1 h; simp only [altF] at h; exact first i3 i2 st x st1 h
    · intro l st x st1 h; simp only [altL] at h
      split at h
      · exact rounds (mk := Rg.alt) 5 (fun a b h1 h2 => ⟨h1, h2⟩) (fun _ _ _ => rfl) i3 i2 st _ l x st1 (at_n _ _) h
      · exact stop l st x st1 h
    · intro st x st1 h; simp only [andF] at h; exact first i5 i4 st x st1 h
    · intro l st x st1 h; simp only [andL] at h
      split at h
      · exact rounds (mk := Rg.and) 6 (fun a b h1 h2 => ⟨h1, h2⟩) (fun _ _ _ => rfl) i5 i4 st _ l x st1 (at_n _ _) h
      · exact stop l st x st1 h
    · intro st x st1 h; simp only [catF] at h; exact first i7 i6 st x st1 h
    · intro l st x st1 h; simp only [catL] at h
      split at h
      · exact stop l st x st1 h
      · exact rounds (mk := Rg.cat) 4 (fun a b h1 h2 => ⟨h1, h2⟩) (fun _ _ _ => rfl) i7 i6 st _ l x st1 rfl h
    · intro st x st1 h; simp only [itemF] at h
      split at h
      · cases h1 : itemF s f (st.at (st.p + 1)) with
        | none => rw [h1] at h; cases h
        | some r =>
          cases r with
          | error e => rw [h1] at h; cases h
          | ok q =>
            obtain ⟨y, st2⟩ := q
            rw [h1] at h
            have h := Except.ok.inj (Option.some.inj h); injection h with h2 h3
            subst h2 h3
            obtain ⟨t, h4, h5, h6⟩ := i7 _ _ _ h1
            rw [at_n] at h5
            have e2 : st2.nodes.length = st.nodes.length + sizeT t := by rw [h5, List.length_append, nodesT_len]
            refine ⟨.not t, h4, ?_, by rw [emit_n]; unfold PS.last; omega⟩
            show st2.nodes ++ _ = _
            rw [h6, e2, h5]; simp [nodesT]
      · exact first i9 i8 st x st1 h
    · intro l st x st1 h; simp only [itemL] at h
      split at h
      · cases h
      · exact stop l st x st1 h
      · rename_i a b q hs
        intro base t0 h0 hst hl
        obtain ⟨b1, b2, b3, b4⟩ := sufP_rng hs
        have e1 : st.nodes.length = base.length + sizeT t0 := by rw [hst, List.length_append, nodesT_len]
        refine i8 _ _ _ _ h base (.rep a b t0) ⟨b1, b2, b3, b4, h0⟩ ?_ (by rw [emit_n, at_n]; unfold PS.last; omega)
        show st.nodes ++ _ = _
        rw [hl, e1, hst]; simp [nodesT]
    · intro st x st1 h; simp only [atomF] at h
      split at h
      · have h := Except.ok.inj (Option.some.inj h); injection h with h2 h3
        subst h2 h3; exact in_leaf (t := .cls _) (range_ok' _ _) (fun _ => rfl)
      · split at h
        · have h := Except.ok.inj (Option.some.inj h); injection h with h2 h3
          subst h2 h3; exact in_leaf (t := .none) trivial (fun _ => rfl)
        · split at h
          · split at h
            · cases h
            · cases h
            · rename_i c q hc
              have h := Except.ok.inj (Option.some.inj h); injection h with h2 h3
              subst h2 h3; exact in_leaf (t := .cls c) (classP_cls hc) (fun _ => rfl)
          · split at h
            · split at h
              · have h := Except.ok.inj (Option.some.inj h); injection h with h2 h3
                subst h2 h3; exact in_leaf (t := .eps) trivial (fun _ => rfl)
              · split at h
                · cases h
                · cases h
                · rename_i y st2 ha
                  split at h
                  · cases h
                  · have h := Except.ok.inj (Option.some.inj h); injection h with h2 h3
                    subst h2 h3; exact i1 (st.at (st.p + 1)) _ st2 ha
            · split at h
              · cases h
              · have h := Except.ok.inj (Option.some.inj h); injection h with h2 h3
                subst h2 h3; exact in_leaf (t := .cls _) (range_ok' _ _) (fun _ => rfl)
/-- What Parse returns are the nodes of a tree. -/
theorem parse_tree {s : List UInt8} {f : Nat} {l : List NodeV} (h : parseP s f = some (.ok l)) : ∃ t, TreeOk t ∧ l = nodesT 0 t := by
  unfold parseP at h
  split at h
  · cases h
  · cases h1 : altF s f ⟨0, []⟩ with
    | none => rw [h1] at h; cases h
    | some r =>
      rw [h1] at h
      have h := Option.some.inj h
      cases r with
      | error e => cases h
      | ok z =>
        obtain ⟨x, st⟩ := z
        unfold endP at h; dsimp only at h
        split at h
        · cases h
        · split at h
          · cases h
          · have h := Except.ok.inj h
            obtain ⟨t, h2, h3, _⟩ := (tree_all s f).1 _ _ _ h1
            exact ⟨t, h2, by rw [← h, h3]; rfl⟩
theorem nodes_cls : ∀ (t : Rg) (o : Nat), TreeOk t → ∀ n ∈ nodesT o t, ClsOk n.c
  | .none, _, _, n, h => by simp [nodesT] at h; subst h; exact noC_ok
  | .eps, _, _, n, h => by simp [nodesT] at h; subst h; exact noC_ok
  | .cls c, _, hc, n, h => by simp [nodesT] at h; subst h; exact hc
  | .cat a b, o, hc, n, h => by
    simp only [nodesT, List.mem_append, List.mem_singleton] at h
    rcases h with (h | h) | h
    · exact nodes_cls a _ hc.1 n h
    · exact nodes_cls b _ hc.2 n h
    · subst h; exact noC_ok
  | .alt a b, o, hc, n, h => by
    simp only [nodesT, List.mem_append, List.mem_singleton] at h
    rcases h with (h | h) | h
    · exact nodes_cls a _ hc.1 n h
    · exact nodes_cls b _ hc.2 n h
    · subst h; exact noC_ok
  | .and a b, o, hc, n, h => by
    simp only [nodesT, List.mem_append, List.mem_singleton] at h
    rcases h with (h | h) | h
    · exact nodes_cls a _ hc.1 n h
    · exact nodes_cls b _ hc.2 n h
    · subst h; exact noC_ok
  | .not a, o, hc, n, h => by
    simp only [nodesT, List.mem_append, List.mem_singleton] at h
    rcases h with h | h
    · exact nodes_cls a _ hc n h
    · subst h; exact noC_ok
  | .rep _ _ a, o, hc, n, h => by
    simp only [nodesT, List.mem_append, List.mem_singleton] at h
    rcases h with h | h
    · exact nodes_cls a _ hc.2.2.2.2 n h
    · subst h; exact noC_ok
theorem parse_cls {s : List UInt8} {f : Nat} {l : List NodeV} (h : parseP s f = some (.ok l)) : ∀ n ∈ l, ClsOk n.c := by
  obtain ⟨t, h1, rfl⟩ := parse_tree h
  exact nodes_cls t 0 h1
end Go.Proofs.YtkmgbcjfidpmgaaGreatDoor
