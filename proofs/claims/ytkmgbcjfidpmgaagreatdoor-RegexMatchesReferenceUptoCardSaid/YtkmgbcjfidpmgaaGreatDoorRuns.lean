/- Package regex: the text of a class, step by step. -/
import Derived.Test.YtkmgbcjfidpmgaaGreatDoorVal
namespace Go.Proofs.YtkmgbcjfidpmgaaGreatDoor
open Go Go.Ex

theorem run_iff : ∀ (t : List UInt8) (x : UInt8) (j : Nat), j ≤ runF x t → (j < runF x t ↔ ∃ h : j + 1 < (x :: t).length, (x :: t)[j + 1] = (x :: t)[j] + 1)
  | [], x, j, hj => by
    have : j = 0 := by simpa [runF] using hj
    subst this; simp [runF]
  | y :: t, x, j, hj => by
    rw [runF] at hj ⊢
    by_cases hy : y = x + 1
    · rw [if_pos hy] at hj ⊢
      cases j with
      | zero => exact ⟨fun _ => ⟨by simp, hy⟩, fun _ => by omega⟩
      | succ k =>
        have ih := run_iff t y k (by omega)
        constructor
        · intro h
          obtain ⟨h1, h2⟩ := ih.1 (by omega)
          exact ⟨by simp at h1 ⊢; omega, h2⟩
        · rintro ⟨h1, h2⟩
          have := ih.2 ⟨by simp at h1 ⊢; omega, h2⟩
          omega
    · rw [if_neg hy] at hj ⊢
      obtain rfl : j = 0 := by omega
      exact ⟨fun h => absurd h (by omega), fun ⟨_, h⟩ => absurd h hy⟩
theorem run_lt : ∀ (t : List UInt8) (x : UInt8), runF x t ≤ t.length
  | [], _ => Nat.le_refl _
  | y :: t, x => by
    rw [runF]; split
    · have := run_lt t y; rw [List.length_cons]; omega
    · omega
def runL : List UInt8 → Nat
  | [] => 0
  | x :: t => runF x t
theorem runL_lt {l : List UInt8} (h : 0 < l.length) : runL l < l.length := by
  cases l with
  | nil => simp at h
  | cons x t => have := run_lt t x; rw [List.length_cons]; show runF x t < _; omega
theorem runL_step {l : List UInt8} {j : Nat} (hj : 1 ≤ j) (hle : j ≤ runL l + 1) (hlt : j < l.length) (h : l[j] = l[j - 1]'(by omega) + 1) : j + 1 ≤ runL l + 1 := by
  obtain ⟨k, rfl⟩ : ∃ k, j = k + 1 := ⟨j - 1, by omega⟩
  cases l with
  | nil => simp at hlt
  | cons x t =>
    have := (run_iff t x k (by show k ≤ runL (x :: t); omega)).2 ⟨hlt, h⟩
    show k + 1 + 1 ≤ runF x t + 1
    omega
theorem runL_stop {l : List UInt8} {j : Nat} (hj : 1 ≤ j) (hle : j ≤ runL l + 1) (h : ∀ hlt : j < l.length, ¬ l[j] = l[j - 1]'(by omega) + 1) : j = runL l + 1 := by
  obtain ⟨k, rfl⟩ : ∃ k, j = k + 1 := ⟨j - 1, by omega⟩
  cases l with
  | nil => have : runL [] = 0 := rfl; omega
  | cons x t =>
    rcases Nat.lt_or_ge k (runF x t) with h1 | h1
    · obtain ⟨h2, h3⟩ := (run_iff t x k (by omega)).1 h1
      exact absurd h3 (h h2)
    · have : runL (x :: t) = runF x t := rfl
      omega
theorem runsT_go {f : Nat} {l : List UInt8} (h : 0 < l.length) : runsT (f + 1) l = charT l[0] ++ ((if 2 < runL l + 1 then [45] else []) ++ ((if 1 < runL l + 1 then charT (l[runL l]'(runL_lt h)) else []) ++ runsT f (l.drop (runL l + 1)))) := by
  cases l with
  | nil => simp at h
  | cons x t =>
    have e : (x :: t).getD (runF x t) 0 = (x :: t)[runL (x :: t)]'(runL_lt h) := by
      rw [List.getD_eq_getElem?_getD]
      have h2 := List.getElem?_eq_getElem (runL_lt h)
      show ((x :: t)[runL (x :: t)]?).getD 0 = _
      rw [h2]; rfl
    rw [runsT, e]; rfl
theorem charT_len (x : UInt8) : (charT x).length ≤ 4 := by unfold charT; split <;> simp
theorem runsT_len : ∀ (f : Nat) (l : List UInt8), (runsT f l).length ≤ 9 * f
  | 0, _ => by simp [runsT]
  | _ + 1, [] => by simp [runsT]
  | f + 1, x :: t => by
    have h1 := charT_len x
    have h2 := charT_len ((x :: t).getD (runF x t) 0)
    have h3 := runsT_len f (t.drop (runF x t))
    rw [runsT]
    simp only [List.length_append]
    have h4 : (if 2 < runF x t + 1 then [45] else ([] : List UInt8)).length ≤ 1 := by split <;> simp
    have h5 : (if 1 < runF x t + 1 then charT ((x :: t).getD (runF x t) 0) else ([] : List UInt8)).length ≤ 4 := by
      split
      · exact h2
      · exact Nat.zero_le _
    omega
theorem headD_at {l : List UInt8} (h : 0 < l.length) : l.headD 0 = l[0] := by
  cases l with
  | nil => simp at h
  | cons x t => rfl
theorem runsT_nil (f : Nat) : runsT f [] = [] := by cases f <;> rfl
theorem u8_succ {a b : UInt8} : (a.toNat : Int) = IntKind.u8.wrap ((b.toNat : Int) + 1) ↔ a = b + 1 := by
  rw [IntKind.wrap_u8]
  constructor
  · intro h; apply UInt8.toNat_inj.1; rw [UInt8.toNat_add]; show a.toNat = (b.toNat + 1) % 256; omega
  · rintro rfl; rw [UInt8.toNat_add]; show (((b.toNat + 1) % 256 : Nat) : Int) = _; omega
end Go.Proofs.YtkmgbcjfidpmgaaGreatDoor
