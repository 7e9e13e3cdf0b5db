/- Package regex: an error of the parser is not the code of no error. -/
import Derived.Test.YtkmgbcjfidpmgaaGreatDoorPlain
namespace Go.Proofs.YtkmgbcjfidpmgaaGreatDoor
open Go Go.Ex

def NZ (r : PRes) : Prop := ∀ e : Er, r = some (.error e) → e.1 ≠ 0
def NE {α : Type} (r : Except Er α) : Prop := ∀ e : Er, r = .error e → e.1 ≠ 0
theorem unexp_nz (s : List UInt8) (p : Nat) : (unexp s p).1 ≠ 0 := by
  unfold unexp; split
  · exact (by decide : (21 : Int) ≠ 0)
  · exact (by decide : (20 : Int) ≠ 0)
theorem NE.ok {α : Type} {a : α} : NE (.ok a : Except Er α) := fun _ h => by cases h
theorem NE.of {α : Type} {e : Er} (h : e.1 ≠ 0) : NE (.error e : Except Er α) := fun _ h' => by cases h'; exact h
theorem NE.bind {α β : Type} {o : Except Er α} {go : α → Except Er β} : NE o → (∀ a, NE (go a)) → NE (match o with | .error e => .error e | .ok a => go a : Except Er β) := by
  intro h hg
  cases o with
  | error e => exact .of (h e rfl)
  | ok a => exact hg a
theorem hexP_nz (s : List UInt8) (p : Nat) : NE (hexP s p) := by
  unfold hexP; split
  · exact .of (unexp_nz _ _)
  · split
    · exact .ok
    · exact .of (unexp_nz _ _)
theorem charP_nz (s : List UInt8) (p : Nat) : NE (charP s p) := by
  unfold charP; split
  · split
    · cases h1 : hexP s (p + 2) with
      | error e => exact .of (hexP_nz _ _ _ h1)
      | ok z =>
        dsimp only
        cases h2 : hexP s z.2 with
        | error e => exact .of (hexP_nz _ _ _ h2)
        | ok y => exact .ok
    · exact .of (unexp_nz _ _)
  · split
    · exact .of (unexp_nz _ _)
    · split
      · exact .ok
      · exact .of (unexp_nz _ _)
theorem numP_nz (s : List UInt8) (p : Nat) : NE (numP s p) := by
  unfold numP; split
  · exact .of (unexp_nz _ _)
  · split
    · exact .of (show (2 : Int) ≠ 0 by decide)
    · split
      · exact .of (show (2 : Int) ≠ 0 by decide)
      · exact .ok
theorem expP_nz (s : List UInt8) (p : Nat) (b : UInt8) : NE (expP s p b) := by
  unfold expP; split
  · exact .ok
  · exact .of (unexp_nz _ _)
theorem boundsP_nz (s : List UInt8) (p : Nat) : NE (boundsP s p) := by
  unfold boundsP
  cases h1 : numP s p with
  | error e => exact .of (numP_nz _ _ _ h1)
  | ok z =>
    dsimp only
    cases h2 : expP s z.2 44 with
    | error e => exact .of (expP_nz _ _ _ _ h2)
    | ok q =>
      dsimp only; split
      · exact .ok
      · cases h3 : numP s q with
        | error e => exact .of (numP_nz _ _ _ h3)
        | ok y =>
          dsimp only; split
          · exact .of (show (20 : Int) ≠ 0 by decide)
          · cases h4 : expP s y.2 125 with
            | error e => exact .of (expP_nz _ _ _ _ h4)
            | ok q2 => exact .ok
theorem sufP_nz (s : List UInt8) (p : Nat) : NE (sufP s p) := by
  unfold sufP
  split
  · exact .ok
  · split
    · exact .ok
    · split
      · exact .ok
      · split
        · cases h1 : boundsP s (p + 1) with
          | error e => exact .of (boundsP_nz _ _ _ h1)
          | ok z => exact .ok
        · exact .ok
theorem classL_nz (s : List UInt8) : ∀ (f : Nat) (c : List Nat) (p : Nat) (e : Er), classL s f c p = some (.error e) → e.1 ≠ 0
  | 0, _, _, _, h => by cases h
  | f + 1, c, p, e, h => by
    rw [classL] at h
    split at h
    · cases h
    · cases h1 : charP s p with
      | error e1 => rw [h1] at h; cases h; exact charP_nz _ _ _ h1
      | ok z =>
        rw [h1] at h; dsimp only at h
        split at h
        · cases h2 : charP s (z.2 + 1) with
          | error e1 => rw [h2] at h; cases h; exact charP_nz _ _ _ h2
          | ok y =>
            rw [h2] at h; dsimp only at h
            split at h
            · cases h; exact (by decide : (20 : Int) ≠ 0)
            · exact classL_nz s f _ _ e h
        · exact classL_nz s f _ _ e h
theorem classP_nz (s : List UInt8) (f p : Nat) (e : Er) (h : classP s f p = some (.error e)) : e.1 ≠ 0 := by
  unfold classP at h
  split at h
  · cases h1 : classL s f noC (p + 1) with
    | none => rw [h1] at h; cases h
    | some r =>
      rw [h1] at h
      cases r with
      | error e1 => cases h; exact classL_nz s f _ _ _ h1
      | ok z => cases h
  · exact classL_nz s f _ _ _ h
theorem NZ.ok {x : Int × PS} : NZ (some (.ok x)) := fun _ h => by cases h
theorem NZ.none : NZ none := fun _ h => by cases h
theorem NZ.of {e : Er} (h : e.1 ≠ 0) : NZ (some (.error e)) := fun _ h' => by cases h'; exact h
theorem NZ.bind {o : PRes} {go : Int → PS → PRes} : NZ o → (∀ a b, NZ (go a b)) → NZ (match o with | .none => .none | .some (.error e) => some (.error e) | .some (.ok (a, b)) => go a b : PRes) := by
  intro h hg
  cases o with
  | none => exact .none
  | some r => cases r with
    | error e => exact .of (h e rfl)
    | ok z => exact hg z.1 z.2
theorem nz_all (s : List UInt8) : ∀ f : Nat, (∀ st, NZ (altF s f st)) ∧ (∀ l st, NZ (altL s f l st)) ∧ (∀ st, NZ (andF s f st)) ∧ (∀ l st, NZ (andL s f l st)) ∧ (∀ st, NZ (catF s f st)) ∧ (∀ l st, NZ (catL s f l st)) ∧ (∀ st, NZ (itemF s f st)) ∧ (∀ x st, NZ (itemL s f x st)) ∧ (∀ st, NZ (atomF s f st))
  | 0 => ⟨fun _ => .none, fun _ _ => .none, fun _ => .none, fun _ _ => .none, fun _ => .none, fun _ _ => .none, fun _ => .none, fun _ _ => .none, fun _ => .none⟩
  | f + 1 => by
    obtain ⟨h1, h2, h3, h4, h5, h6, h7, h8, h9⟩ := nz_all s f
    refine ⟨fun st => ?_, fun l st => ?_, fun st => ?_, fun l st => ?_, fun st => ?_, fun l st => ?_, fun st => ?_, fun x st => ?_, fun st => ?_⟩
    · simp only [altF]; exact NZ.bind (go := fun a b => altL s f a b) (h3 st) h2
    · simp only [altL]; split
      · exact NZ.bind (go := fun a b => altL s f b.last (b.emit (binN 5 l a))) (h3 _) fun _ _ => h2 _ _
      · exact .ok
    · simp only [andF]; exact NZ.bind (go := fun a b => andL s f a b) (h5 st) h4
    · simp only [andL]; split
      · exact NZ.bind (go := fun a b => andL s f b.last (b.emit (binN 6 l a))) (h5 _) fun _ _ => h4 _ _
      · exact .ok
    · simp only [catF]; exact NZ.bind (go := fun a b => catL s f a b) (h7 st) h6
    · simp only [catL]; split
      · exact .ok
      · exact NZ.bind (go := fun a b => catL s f b.last (b.emit (binN 4 l a))) (h7 _) fun _ _ => h6 _ _
    · simp only [itemF]; split
      · exact NZ.bind (go := fun a b => some (.ok (b.last, b.emit ⟨7, noC, a, 0, 0, 0⟩))) (h7 _) fun _ _ => .ok
      · exact NZ.bind (go := fun a b => itemL s f a b) (h9 _) h8
    · simp only [itemL]
      cases hs : sufP s st.p with
      | error e => exact .of (sufP_nz _ _ _ hs)
      | ok o => cases o with
        | none => exact .ok
        | some z => exact h8 _ _
    · simp only [atomF]; split
      · exact .ok
      · split
        · exact .ok
        · split
          · cases hc : classP s f (st.p + 1) with
            | none => exact .none
            | some r => cases r with
              | error e => exact .of (classP_nz _ _ _ _ hc)
              | ok z => exact .ok
          · split
            · split
              · exact .ok
              · exact NZ.bind (go := fun a b => match expP s b.p 41 with | .error e => some (.error e) | .ok q => some (.ok (a, b.at q))) (h1 _) fun a b => by
                  cases he : expP s b.p 41 with
                  | error e => exact .of (expP_nz _ _ _ _ he)
                  | ok q => exact .ok
            · cases hc : charP s st.p with
              | error e => exact .of (charP_nz _ _ _ hc)
              | ok z => exact .ok
theorem parse_nz {s : List UInt8} {f : Nat} {e : Er} (h : parseP s f = some (.error e)) : e.1 ≠ 0 := by
  unfold parseP at h
  split at h
  · cases h; exact (by decide : (2 : Int) ≠ 0)
  · cases ha : altF s f ⟨0, []⟩ with
    | none => rw [ha] at h; cases h
    | some r =>
      rw [ha] at h
      cases r with
      | error e1 => cases h; exact (nz_all s f).1 _ _ ha
      | ok z =>
        have h' : endP s (.ok z) = .error e := Option.some.inj h
        unfold endP at h'
        dsimp only at h'
        split at h'
        · cases h'; exact unexp_nz _ _
        · split at h'
          · cases h'; exact (by decide : (2 : Int) ≠ 0)
          · cases h'
theorem parse_size {s : List UInt8} {f : Nat} {l : List NodeV} (h : parseP s f = some (.ok l)) : l.length ≤ 200 := by
  unfold parseP at h
  split at h
  · cases h
  · cases ha : altF s f ⟨0, []⟩ with
    | none => rw [ha] at h; cases h
    | some r =>
      rw [ha] at h
      cases r with
      | error e1 => cases h
      | ok z =>
        have h' : endP s (.ok z) = .ok l := Option.some.inj h
        unfold endP at h'
        dsimp only at h'
        split at h'
        · cases h'
        · split at h'
          · cases h'
          · cases h'; omega
end Go.Proofs.YtkmgbcjfidpmgaaGreatDoor
