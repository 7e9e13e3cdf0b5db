/- Package regex: the parser's model, in plain words: what it reads, and that it ends. -/
import Derived.Test.YtkmgbcjfidpmgaaGreatDoorModel
namespace Go.Proofs.YtkmgbcjfidpmgaaGreatDoor
open Go Go.Ex

theorem isB_lt {s : List UInt8} {p : Nat} {b : UInt8} (h : isB s p b = true) : p < s.length := by
  rcases Nat.lt_or_ge p s.length with h' | h'
  · exact h'
  · unfold isB at h; rw [List.getElem?_eq_none h'] at h; cases h
theorem hexP_ok {s : List UInt8} {p q : Nat} {v : UInt8} (h : hexP s p = .ok (v, q)) : q = p + 1 ∧ p < s.length := by
  unfold hexP at h
  split at h
  · cases h
  · rename_i x hx
    split at h
    · injection h with h; injection h with h1 h2
      refine ⟨h2.symm, ?_⟩
      rcases Nat.lt_or_ge p s.length with h' | h'
      · exact h'
      · rw [List.getElem?_eq_none h'] at hx; cases hx
    · cases h
theorem charP_ok {s : List UInt8} {p q : Nat} {v : UInt8} (h : charP s p = .ok (v, q)) : p < q ∧ q ≤ s.length := by
  unfold charP at h
  split at h
  · split at h
    · split at h
      · cases h
      · rename_i h1
        split at h
        · cases h
        · rename_i h2
          injection h with h; injection h with h3 h4
          have a := hexP_ok h1
          have b := hexP_ok h2
          omega
    · cases h
  · split at h
    · cases h
    · rename_i x hx
      split at h
      · injection h with h; injection h with h3 h4
        have : p < s.length := by
          rcases Nat.lt_or_ge p s.length with h' | h'
          · exact h'
          · rw [List.getElem?_eq_none h'] at hx; cases hx
        omega
      · cases h
theorem classL_ok {s : List UInt8} : ∀ (f : Nat) (c : List Nat) (p q : Nat) (c2 : List Nat), classL s f c p = some (.ok (c2, q)) → p < q ∧ q ≤ s.length
  | 0, _, _, _, _, h => by cases h
  | f + 1, c, p, q, c2, h => by
    rw [classL] at h
    split at h
    · rename_i h0
      have := isB_lt h0
      injection h with h; injection h with h; injection h with h1 h2
      omega
    · split at h
      · cases h
      · rename_i lo p2 h1
        have a := charP_ok h1
        split at h
        · split at h
          · cases h
          · rename_i hi p3 h2
            have b := charP_ok h2
            split at h
            · cases h
            · have := classL_ok f _ _ _ _ h; omega
        · have := classL_ok f _ _ _ _ h; omega
theorem classL_some {s : List UInt8} : ∀ (f : Nat) (c : List Nat) (p : Nat), p ≤ s.length → s.length - p + 1 ≤ f → ∃ r, classL s f c p = some r
  | 0, _, p, _, h => by omega
  | f + 1, c, p, hp, h => by
    rw [classL]
    split
    · exact ⟨_, rfl⟩
    · split
      · exact ⟨_, rfl⟩
      · rename_i lo p2 h1
        have a := charP_ok h1
        split
        · split
          · exact ⟨_, rfl⟩
          · rename_i hi p3 h2
            have b := charP_ok h2
            split
            · exact ⟨_, rfl⟩
            · exact classL_some f _ _ b.2 (by omega)
        · exact classL_some f _ _ a.2 (by omega)
theorem classP_ok {s : List UInt8} {f p q : Nat} {c : List Nat} (h : classP s f p = some (.ok (c, q))) : p < q ∧ q ≤ s.length := by
  unfold classP at h
  split at h
  · cases h1 : classL s f noC (p + 1) with
    | none => rw [h1] at h; cases h
    | some r =>
      rw [h1] at h
      cases r with
      | error e => cases h
      | ok z =>
        obtain ⟨c2, q2⟩ := z
        have := classL_ok f _ _ _ _ h1
        injection h with h; injection h with h; injection h with h2 h3
        omega
  · exact classL_ok f _ _ _ _ h
theorem classP_some {s : List UInt8} {f p : Nat} (hp : p ≤ s.length) (hf : s.length - p + 1 ≤ f) : ∃ r, classP s f p = some r := by
  unfold classP
  split
  · rename_i h0
    have := isB_lt h0
    obtain ⟨r, hr⟩ := classL_some (s := s) f noC (p + 1) (by omega) (by omega)
    rw [hr]; exact ⟨_, rfl⟩
  · exact classL_some f _ _ hp hf
theorem digs_le (l : List UInt8) : (digsF l).length ≤ l.length := by
  cases l with
  | nil => simp [digsF]
  | cons x t =>
    rw [digsF]; split
    · simp
    · exact (List.takeWhile_sublist _).length_le
theorem numP_ok {s : List UInt8} {p q n : Nat} (h : numP s p = .ok (n, q)) : p < q ∧ q ≤ s.length ∧ n ≤ 16 := by
  have hd := digs_le (s.drop p)
  rw [List.length_drop] at hd
  unfold numP at h
  repeat' split at h
  · cases h
  · cases h
  · cases h
  · injection h with h; injection h with h1 h2
    omega
theorem expP_ok {s : List UInt8} {p q : Nat} {b : UInt8} (h : expP s p b = .ok q) : q = p + 1 ∧ p < s.length := by
  unfold expP at h
  split at h
  · rename_i h0
    have := isB_lt h0
    injection h with h; omega
  · cases h
theorem boundsP_ok {s : List UInt8} {p q : Nat} {a b : Int} (h : boundsP s p = .ok (a, b, q)) : p < q ∧ q ≤ s.length := by
  unfold boundsP at h
  split at h
  · cases h
  · rename_i h1
    have e1 := numP_ok h1
    split at h
    · cases h
    · rename_i h2
      have e2 := expP_ok h2
      split at h
      · rename_i h3
        have e3 := isB_lt h3
        injection h with h; injection h with h4 h; injection h with h5 h6
        omega
      · split at h
        · cases h
        · rename_i h4
          have e4 := numP_ok h4
          split at h
          · cases h
          · split at h
            · cases h
            · rename_i h5
              have e5 := expP_ok h5
              injection h with h; injection h with h6 h; injection h with h7 h8
              omega
theorem sufP_ok {s : List UInt8} {p q : Nat} {a b : Int} (h : sufP s p = .ok (some (a, b, q))) : p < q ∧ q ≤ s.length := by
  unfold sufP at h
  split at h
  · rename_i h0; have := isB_lt h0
    injection h with h; injection h with h; injection h with h4 h; injection h with h5 h6; omega
  · split at h
    · rename_i h0; have := isB_lt h0
      injection h with h; injection h with h; injection h with h4 h; injection h with h5 h6; omega
    · split at h
      · rename_i h0; have := isB_lt h0
        injection h with h; injection h with h; injection h with h4 h; injection h with h5 h6; omega
      · split at h
        · split at h
          · cases h
          · rename_i h1
            have := boundsP_ok h1
            injection h with h; injection h with h; injection h with h4 h; injection h with h5 h6; omega
        · cases h

/-- What a part of the parser reads: at least a byte; at most two nodes a byte. -/
def Good (s : List UInt8) (st : PS) (r : PRes) : Prop := ∀ x st1, r = some (.ok (x, st1)) → st.p < st1.p ∧ st1.p ≤ s.length ∧ st1.nodes.length + 1 ≤ st.nodes.length + 2 * (st1.p - st.p)
def GoodL (s : List UInt8) (st : PS) (r : PRes) : Prop := ∀ x st1, r = some (.ok (x, st1)) → st.p ≤ st1.p ∧ st1.p ≤ s.length ∧ st1.nodes.length ≤ st.nodes.length + 2 * (st1.p - st.p)
theorem emit_p (st : PS) (n : NodeV) : (st.emit n).p = st.p := rfl
theorem emit_n (st : PS) (n : NodeV) : (st.emit n).nodes.length = st.nodes.length + 1 := by simp [PS.emit]
theorem at_p (st : PS) (p : Nat) : (st.at p).p = p := rfl
theorem at_n (st : PS) (p : Nat) : (st.at p).nodes = st.nodes := rfl
theorem good_all (s : List UInt8) : ∀ f : Nat, (∀ st, st.p ≤ s.length → Good s st (altF s f st)) ∧ (∀ l st, st.p ≤ s.length → GoodL s st (altL s f l st)) ∧ (∀ st, st.p ≤ s.length → Good s st (andF s f st)) ∧ (∀ l st, st.p ≤ s.length → GoodL s st (andL s f l st)) ∧
    (∀ st, st.p ≤ s.length → Good s st (catF s f st)) ∧ (∀ l st, st.p ≤ s.length → GoodL s st (catL s f l st)) ∧ (∀ st, st.p ≤ s.length → Good s st (itemF s f st)) ∧ (∀ l st, st.p ≤ s.length → GoodL s st (itemL s f l st)) ∧ (∀ st, st.p ≤ s.length → Good s st (atomF s f st)) := by
  intro f
  induction f with
  | zero =>
    refine ⟨?_, ?_, ?_, ?_, ?_, ?_, ?_, ?_, ?_⟩ <;> intros <;> intro x st1 h <;> simp only [altF, altL, andF, andL, catF, catL, itemF, itemL, atomF] at h <;> cases h
  | succ f ih =>
    obtain ⟨i1, i2, i3, i4, i5, i6, i7, i8, i9⟩ := ih
    have first : ∀ {F : Nat → PS → PRes} {L : Nat → Int → PS → PRes} (hF : ∀ st, st.p ≤ s.length → Good s st (F f st)) (hL : ∀ l st, st.p ≤ s.length → GoodL s st (L f l st)) (st : PS), st.p ≤ s.length → ∀ x st1,
        (match F f st with | none => none | some (.error e) => some (.error e) | some (.ok (l, st1)) => L f l st1 : PRes) = some (.ok (x, st1)) → st.p < st1.p ∧ st1.p ≤ s.length ∧ st1.nodes.length + 1 ≤ st.nodes.length + 2 * (st1.p - st.p) := by
      intro F L hF hL st hp x st1 h
      cases h1 : F f st with
      | none => rw [h1] at h; cases h
      | some r =>
        cases r with
        | error e => rw [h1] at h; cases h
        | ok q =>
          obtain ⟨l, st2⟩ := q
          rw [h1] at h
          have a := hF st hp l st2 h1
          have b := hL l st2 a.2.1 x st1 h
          omega
    have rounds : ∀ {F : Nat → PS → PRes} {L : Nat → Int → PS → PRes} (k : Int) (hF : ∀ st, st.p ≤ s.length → Good s st (F f st)) (hL : ∀ l st, st.p ≤ s.length → GoodL s st (L f l st)) (st st0 : PS) (l : Int), st.p ≤ s.length → st.nodes.length ≤ st0.nodes.length → st0.p ≤ st.p → ∀ x st1,
        (match F f st with | none => none | some (.error e) => some (.error e) | some (.ok (r, st1)) => L f st1.last (st1.emit (binN k l r)) : PRes) = some (.ok (x, st1)) → st0.p ≤ st1.p ∧ st1.p ≤ s.length ∧ st1.nodes.length ≤ st0.nodes.length + 2 * (st1.p - st0.p) := by
      intro F L k hF hL st st0 l hp hn h0 x st1 h
      cases h1 : F f st with
      | none => rw [h1] at h; cases h
      | some r =>
        cases r with
        | error e => rw [h1] at h; cases h
        | ok q =>
          obtain ⟨y, st2⟩ := q
          rw [h1] at h
          have a := hF st hp y st2 h1
          have b := hL _ (st2.emit (binN k l y)) (by rw [emit_p]; exact a.2.1) x st1 h
          rw [emit_p, emit_n] at b
          omega
    have stay : ∀ (l x : Int) (st st1 : PS), st.p ≤ s.length → (some (.ok (l, st)) : PRes) = some (.ok (x, st1)) → st.p ≤ st1.p ∧ st1.p ≤ s.length ∧ st1.nodes.length ≤ st.nodes.length + 2 * (st1.p - st.p) := by
      intro l x st st1 hp h
      injection h with h; injection h with h; injection h with h1 h2
      subst h2; omega
    refine ⟨?_, ?_, ?_, ?_, ?_, ?_, ?_, ?_, ?_⟩
    · intro st hp x st1 h
      simp only [altF] at h
      exact first (F := andF s) (L := altL s) i3 i2 st hp x st1 h
    · intro l st hp x st1 h
      simp only [altL] at h
      split at h
      · rename_i h0
        have := isB_lt h0
        exact rounds (F := andF s) (L := altL s) 5 i3 i2 (st.at (st.p + 1)) st l (by rw [at_p]; omega) (Nat.le_refl _) (by rw [at_p]; omega) x st1 h
      · exact stay l x st st1 hp h
    · intro st hp x st1 h
      simp only [andF] at h
      exact first (F := catF s) (L := andL s) i5 i4 st hp x st1 h
    · intro l st hp x st1 h
      simp only [andL] at h
      split at h
      · rename_i h0
        have := isB_lt h0
        exact rounds (F := catF s) (L := andL s) 6 i5 i4 (st.at (st.p + 1)) st l (by rw [at_p]; omega) (Nat.le_refl _) (by rw [at_p]; omega) x st1 h
      · exact stay l x st st1 hp h
    · intro st hp x st1 h
      simp only [catF] at h
      exact first (F := itemF s) (L := catL s) i7 i6 st hp x st1 h
    · intro l st hp x st1 h
      simp only [catL] at h
      split at h
      · exact stay l x st st1 hp h
      · exact rounds (F := itemF s) (L := catL s) 4 i7 i6 st st l hp (Nat.le_refl _) (Nat.le_refl _) x st1 h
    · intro st hp x st1 h
      simp only [itemF] at h
      split at h
      · rename_i h0
        have := isB_lt h0
        cases h1 : itemF s f (st.at (st.p + 1)) with
        | none => rw [h1] at h; cases h
        | some r =>
          cases r with
          | error e => rw [h1] at h; cases h
          | ok q =>
            obtain ⟨y, st2⟩ := q
            rw [h1] at h
            have a := i7 _ (by rw [at_p]; omega) y st2 h1
            injection h with h; injection h with h; injection h with h2 h3
            subst h3
            rw [emit_p, emit_n]; rw [at_p, at_n] at a
            omega
      · exact first (F := atomF s) (L := itemL s) i9 i8 st hp x st1 h
    · intro l st hp x st1 h
      simp only [itemL] at h
      split at h
      · cases h
      · exact stay l x st st1 hp h
      · rename_i a b q h0
        have e := sufP_ok h0
        have g := i8 _ _ (by rw [emit_p, at_p]; exact e.2) x st1 h
        rw [emit_p, emit_n, at_p, at_n] at g
        omega
    · intro st hp x st1 h
      simp only [atomF] at h
      have fin : ∀ (q : Nat) (n : NodeV) (y : Int), st.p < q → q ≤ s.length → (some (.ok (y, (st.at q).emit n)) : PRes) = some (.ok (x, st1)) → st.p < st1.p ∧ st1.p ≤ s.length ∧ st1.nodes.length + 1 ≤ st.nodes.length + 2 * (st1.p - st.p) := by
        intro q n y h1 h2 h
        injection h with h; injection h with h; injection h with h3 h4
        subst h4; rw [emit_p, emit_n, at_p, at_n]; omega
      split at h
      · rename_i h0; have := isB_lt h0; exact fin _ _ _ (by omega) (by omega) h
      · split at h
        · rename_i h0; have := isB_lt h0; exact fin _ _ _ (by omega) (by omega) h
        · split at h
          · rename_i h0; have := isB_lt h0
            cases h1 : classP s f (st.p + 1) with
            | none => rw [h1] at h; cases h
            | some r =>
              cases r with
              | error e => rw [h1] at h; cases h
              | ok z =>
                obtain ⟨c, q⟩ := z
                rw [h1] at h
                have := classP_ok h1
                exact fin _ _ _ (by omega) (by omega) h
          · split at h
            · rename_i h0; have hlt := isB_lt h0
              split at h
              · rename_i h1; have := isB_lt h1; exact fin _ _ _ (by omega) (by omega) h
              · cases h1 : altF s f (st.at (st.p + 1)) with
                | none => rw [h1] at h; cases h
                | some r =>
                  cases r with
                  | error e => rw [h1] at h; cases h
                  | ok z =>
                    obtain ⟨y, st2⟩ := z
                    rw [h1] at h
                    have a := i1 _ (by rw [at_p]; omega) y st2 h1
                    rw [at_p, at_n] at a
                    cases h2 : expP s st2.p 41 with
                    | error e => simp only [h2] at h; cases h
                    | ok q =>
                      have e := expP_ok h2
                      simp only [h2] at h
                      injection h with h; injection h with h; injection h with h3 h4
                      subst h4; rw [at_p, at_n]; omega
            · cases h1 : charP s st.p with
              | error e => simp only [h1] at h; cases h
              | ok z =>
                obtain ⟨b, q⟩ := z
                simp only [h1] at h
                have := charP_ok h1
                exact fin _ _ _ (by omega) (by omega) h
/-- Enough rounds. -/
theorem fuel_all (s : List UInt8) : ∀ f : Nat, (∀ st, st.p ≤ s.length → 8 * (s.length - st.p) + 12 ≤ f → ∃ r, altF s f st = some r) ∧ (∀ l st, st.p ≤ s.length → 8 * (s.length - st.p) + 12 ≤ f → ∃ r, altL s f l st = some r) ∧
    (∀ st, st.p ≤ s.length → 8 * (s.length - st.p) + 11 ≤ f → ∃ r, andF s f st = some r) ∧ (∀ l st, st.p ≤ s.length → 8 * (s.length - st.p) + 11 ≤ f → ∃ r, andL s f l st = some r) ∧
    (∀ st, st.p ≤ s.length → 8 * (s.length - st.p) + 10 ≤ f → ∃ r, catF s f st = some r) ∧ (∀ l st, st.p ≤ s.length → 8 * (s.length - st.p) + 10 ≤ f → ∃ r, catL s f l st = some r) ∧
    (∀ st, st.p ≤ s.length → 8 * (s.length - st.p) + 9 ≤ f → ∃ r, itemF s f st = some r) ∧ (∀ l st, st.p ≤ s.length → 8 * (s.length - st.p) + 9 ≤ f → ∃ r, itemL s f l st = some r) ∧ (∀ st, st.p ≤ s.length → 8 * (s.length - st.p) + 8 ≤ f → ∃ r, atomF s f st = some r) := by
  intro f
  induction f with
  | zero => refine ⟨?_, ?_, ?_, ?_, ?_, ?_, ?_, ?_, ?_⟩ <;> intros <;> omega
  | succ f ih =>
    obtain ⟨i1, i2, i3, i4, i5, i6, i7, i8, i9⟩ := ih
    obtain ⟨g1, g2, g3, g4, g5, g6, g7, g8, g9⟩ := good_all s f
    refine ⟨?_, ?_, ?_, ?_, ?_, ?_, ?_, ?_, ?_⟩
    · intro st hp hf
      simp only [altF]
      obtain ⟨r, h⟩ := i3 st hp (by omega)
      rw [h]
      cases r with
      | error e => exact ⟨_, rfl⟩
      | ok q => have := g3 st hp q.1 q.2 h; exact i2 _ _ this.2.1 (by omega)
    · intro l st hp hf
      simp only [altL]
      split
      · rename_i h0
        have := isB_lt h0
        obtain ⟨r, h⟩ := i3 (st.at (st.p + 1)) (by rw [at_p]; omega) (by rw [at_p]; omega)
        rw [h]
        cases r with
        | error e => exact ⟨_, rfl⟩
        | ok q =>
          have := g3 _ (by rw [at_p]; omega) q.1 q.2 h
          rw [at_p] at this
          exact i2 _ _ (by rw [emit_p]; exact this.2.1) (by rw [emit_p]; omega)
      · exact ⟨_, rfl⟩
    · intro st hp hf
      simp only [andF]
      obtain ⟨r, h⟩ := i5 st hp (by omega)
      rw [h]
      cases r with
      | error e => exact ⟨_, rfl⟩
      | ok q => have := g5 st hp q.1 q.2 h; exact i4 _ _ this.2.1 (by omega)
    · intro l st hp hf
      simp only [andL]
      split
      · rename_i h0
        have := isB_lt h0
        obtain ⟨r, h⟩ := i5 (st.at (st.p + 1)) (by rw [at_p]; omega) (by rw [at_p]; omega)
        rw [h]
        cases r with
        | error e => exact ⟨_, rfl⟩
        | ok q =>
          have := g5 _ (by rw [at_p]; omega) q.1 q.2 h
          rw [at_p] at this
          exact i4 _ _ (by rw [emit_p]; exact this.2.1) (by rw [emit_p]; omega)
      · exact ⟨_, rfl⟩
    · intro st hp hf
      simp only [catF]
      obtain ⟨r, h⟩ := i7 st hp (by omega)
      rw [h]
      cases r with
      | error e => exact ⟨_, rfl⟩
      | ok q => have := g7 st hp q.1 q.2 h; exact i6 _ _ this.2.1 (by omega)
    · intro l st hp hf
      simp only [catL]
      split
      · exact ⟨_, rfl⟩
      · obtain ⟨r, h⟩ := i7 st hp (by omega)
        rw [h]
        cases r with
        | error e => exact ⟨_, rfl⟩
        | ok q =>
          have := g7 _ hp q.1 q.2 h
          exact i6 _ _ (by rw [emit_p]; exact this.2.1) (by rw [emit_p]; omega)
    · intro st hp hf
      simp only [itemF]
      split
      · rename_i h0
        have := isB_lt h0
        obtain ⟨r, h⟩ := i7 (st.at (st.p + 1)) (by rw [at_p]; omega) (by rw [at_p]; omega)
        rw [h]
        cases r with
        | error e => exact ⟨_, rfl⟩
        | ok q => exact ⟨_, rfl⟩
      · obtain ⟨r, h⟩ := i9 st hp (by omega)
        rw [h]
        cases r with
        | error e => exact ⟨_, rfl⟩
        | ok q => have := g9 st hp q.1 q.2 h; exact i8 _ _ this.2.1 (by omega)
    · intro l st hp hf
      simp only [itemL]
      split
      · exact ⟨_, rfl⟩
      · exact ⟨_, rfl⟩
      · rename_i a b q h0
        have e := sufP_ok h0
        exact i8 _ _ (by rw [emit_p, at_p]; exact e.2) (by rw [emit_p, at_p]; omega)
    · intro st hp hf
      simp only [atomF]
      split
      · exact ⟨_, rfl⟩
      · split
        · exact ⟨_, rfl⟩
        · split
          · rename_i h0
            have := isB_lt h0
            obtain ⟨r, h⟩ := classP_some (s := s) (f := f) (p := st.p + 1) (by omega) (by omega)
            rw [h]
            cases r with
            | error e => exact ⟨_, rfl⟩
            | ok z => exact ⟨_, rfl⟩
          · split
            · rename_i h0
              have := isB_lt h0
              split
              · exact ⟨_, rfl⟩
              · obtain ⟨r, h⟩ := i1 (st.at (st.p + 1)) (by rw [at_p]; omega) (by rw [at_p]; omega)
                rw [h]
                cases r with
                | error e => exact ⟨_, rfl⟩
                | ok z =>
                  obtain ⟨y, st2⟩ := z
                  dsimp only
                  cases expP s st2.p 41 <;> exact ⟨_, rfl⟩
            · cases charP s st.p with
              | error e => exact ⟨_, rfl⟩
              | ok z => exact ⟨_, rfl⟩
theorem parse_some (s : List UInt8) : ∃ f r, parseP s f = some r := by
  unfold parseP
  split
  · exact ⟨0, _, rfl⟩
  · obtain ⟨r, h⟩ := (fuel_all s (8 * s.length + 12)).1 ⟨0, []⟩ (Nat.zero_le _) (Nat.le_refl _)
    exact ⟨_, _, by rw [h]; rfl⟩

/-! ### the next byte as a number -/
def peekI (s : List UInt8) (q : Nat) : Int := match s[q]? with | some b => (b.toNat : Int) | none => -1
theorem peek_at {s : List UInt8} {q : Nat} (h : q < s.length) : peekI s q = ((s[q].toNat : Nat) : Int) := by unfold peekI; rw [List.getElem?_eq_getElem h]
theorem peek_end {s : List UInt8} {q : Nat} (h : s.length ≤ q) : peekI s q = -1 := by unfold peekI; rw [List.getElem?_eq_none h]
theorem peek_rng (s : List UInt8) (q : Nat) : -1 ≤ peekI s q ∧ peekI s q ≤ 255 := by
  unfold peekI; split
  · rename_i b _; have := b.toNat_lt; omega
  · omega
theorem peek_lt {s : List UInt8} {q : Nat} (h : 0 ≤ peekI s q) : q < s.length := by
  rcases Nat.lt_or_ge q s.length with h' | h'
  · exact h'
  · rw [peek_end h'] at h; omega
theorem isB_peek (s : List UInt8) (q : Nat) (b : UInt8) : isB s q b = decide (peekI s q = (b.toNat : Int)) := by
  unfold isB peekI
  cases h : s[q]? with
  | none => rw [Bool.eq_iff_iff]; simp
  | some x =>
    rw [Bool.eq_iff_iff, decide_eq_true_eq]
    constructor
    · intro h; have : x = b := by simpa using h
      rw [this]
    · intro h; have : x = b := UInt8.toNat_inj.1 (by have h2 : ((x.toNat : Nat) : Int) = (b.toNat : Int) := h; omega)
      rw [this]; simp
theorem isB_eq {s : List UInt8} {q : Nat} {b : UInt8} (h : isB s q b = true) : peekI s q = (b.toNat : Int) := by rw [isB_peek] at h; exact of_decide_eq_true h
theorem isB_ne {s : List UInt8} {q : Nat} {b : UInt8} (h : isB s q b = false) : ¬ peekI s q = (b.toNat : Int) := by rw [isB_peek] at h; exact of_decide_eq_false h
theorem hex_num : ∀ x : UInt8, hexF x = if 48 ≤ x.toNat ∧ x.toNat ≤ 57 then some (UInt8.ofNat (x.toNat - 48)) else if 97 ≤ x.toNat ∧ x.toNat ≤ 102 then some (UInt8.ofNat (x.toNat - 87)) else if 65 ≤ x.toNat ∧ x.toNat ≤ 70 then some (UInt8.ofNat (x.toNat - 55)) else none := by
  intro x
  have h : ∀ n : Fin 256, hexF (UInt8.ofNat n.val) = if 48 ≤ (UInt8.ofNat n.val).toNat ∧ (UInt8.ofNat n.val).toNat ≤ 57 then some (UInt8.ofNat ((UInt8.ofNat n.val).toNat - 48)) else if 97 ≤ (UInt8.ofNat n.val).toNat ∧ (UInt8.ofNat n.val).toNat ≤ 102 then some (UInt8.ofNat ((UInt8.ofNat n.val).toNat - 87)) else if 65 ≤ (UInt8.ofNat n.val).toNat ∧ (UInt8.ofNat n.val).toNat ≤ 70 then some (UInt8.ofNat ((UInt8.ofNat n.val).toNat - 55)) else none := by decide +kernel
  have := h ⟨x.toNat, x.toNat_lt⟩
  simpa using this
theorem hexP_some {s : List UInt8} {q k : Nat} (h : (48 ≤ peekI s q ∧ peekI s q ≤ 57 ∧ k = 48) ∨ (¬ (48 ≤ peekI s q ∧ peekI s q ≤ 57) ∧ 97 ≤ peekI s q ∧ peekI s q ≤ 102 ∧ k = 87) ∨ (¬ (48 ≤ peekI s q ∧ peekI s q ≤ 57) ∧ ¬ (97 ≤ peekI s q ∧ peekI s q ≤ 102) ∧ 65 ≤ peekI s q ∧ peekI s q ≤ 70 ∧ k = 55)) :
    ∃ v, hexP s q = .ok (v, q + 1) ∧ IntKind.u8.wrap (peekI s q - (k : Int)) = (v.toNat : Int) := by
  have hlt := peek_lt (s := s) (q := q) (by omega)
  have hp := peek_at hlt
  have h8 := (s[q]'hlt).toNat_lt
  refine ⟨UInt8.ofNat ((s[q]'hlt).toNat - k), ?_, ?_⟩
  · unfold hexP
    rw [List.getElem?_eq_getElem hlt]; dsimp only
    rw [hex_num]
    rcases h with ⟨h1, h2, rfl⟩ | ⟨h0, h1, h2, rfl⟩ | ⟨h00, h0, h1, h2, rfl⟩
    · rw [if_pos (by omega)]
    · rw [if_neg (by omega), if_pos (by omega)]
    · rw [if_neg (by omega), if_neg (by omega), if_pos (by omega)]
  · rw [IntKind.wrap_u8, UInt8.toNat_ofNat', hp]; omega
theorem hexP_none {s : List UInt8} {q : Nat} (h1 : ¬ (48 ≤ peekI s q ∧ peekI s q ≤ 57)) (h2 : ¬ (97 ≤ peekI s q ∧ peekI s q ≤ 102)) (h3 : ¬ (65 ≤ peekI s q ∧ peekI s q ≤ 70)) : hexP s q = .error (unexp s q) := by
  unfold hexP
  rcases Nat.lt_or_ge q s.length with hlt | hlt
  · have hp := peek_at hlt
    rw [List.getElem?_eq_getElem hlt]; dsimp only
    rw [hex_num, if_neg (by omega), if_neg (by omega), if_neg (by omega)]
  · rw [List.getElem?_eq_none hlt]
theorem four_of {c : List Nat} (h : c.length = 4) : ∃ a b d e, c = [a, b, d, e] := by
  match c, h with
  | [a, b, d, e], _ => exact ⟨a, b, d, e, rfl⟩
end Go.Proofs.YtkmgbcjfidpmgaaGreatDoor
