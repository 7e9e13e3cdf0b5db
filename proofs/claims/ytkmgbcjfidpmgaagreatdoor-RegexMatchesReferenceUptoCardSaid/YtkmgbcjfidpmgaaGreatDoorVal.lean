/- Package regex: which expressions are valid. -/
import Derived.Test.YtkmgbcjfidpmgaaGreatDoorText3
namespace Go.Proofs.YtkmgbcjfidpmgaaGreatDoor
open Go Go.Ex

def opsOk (n : NodeV) (i : Int) : Prop := (if 0 < arF n.kind then 0 ≤ n.l ∧ n.l < i else n.l = 0) ∧ (if 1 < arF n.kind then 0 ≤ n.r ∧ n.r < i else n.r = 0)
instance (n : NodeV) (i : Int) : Decidable (opsOk n i) := by unfold opsOk; infer_instance
/-- What is wrong with a node; 0: nothing. -/
def nodeE (n : NodeV) (i : Int) : Int :=
  if n.kind < 1 ∨ 8 < n.kind then 1
  else if ¬ opsOk n i then 1
  else if n.kind ≠ 3 ∧ n.c ≠ noC then 1
  else if n.kind ≠ 8 then (if n.mn ≠ 0 ∨ n.mx ≠ 0 then 1 else 0)
  else if n.mn < 0 ∨ n.mx < -1 then 1
  else if 16 < n.mn ∨ 16 < n.mx then 2
  else if n.mx ≠ -1 ∧ n.mx < n.mn then 1 else 0
def errF : Nat → List NodeV → Int
  | _, [] => 0
  | i, n :: t => if nodeE n i = 0 then errF (i + 1) t else nodeE n i
/-- How often each node is an operand. -/
def stepC (cs : List Nat) (n : NodeV) : List Nat :=
  if 1 < arF n.kind then (cs.modify n.l.toNat (· + 1)).modify n.r.toNat (· + 1)
  else if 0 < arF n.kind then cs.modify n.l.toNat (· + 1) else cs
def cntF (l : List NodeV) : List Nat := l.foldl stepC (List.replicate l.length 0)
def onesF (cs : List Nat) (m : Nat) : Bool := (cs.take m).all (· == 1)
def validF (l : List NodeV) : Int :=
  if 200 < l.length then 2 else if l.length = 0 then 1 else if errF 0 l = 0 then (if onesF (cntF l) (l.length - 1) = true then 0 else 1) else errF 0 l
theorem arF_three (k : Int) : arF k = 0 ∨ arF k = 1 ∨ arF k = 2 := by
  unfold arF; split
  · exact .inr (.inr rfl)
  · split
    · exact .inr (.inl rfl)
    · exact .inl rfl
theorem arF_2 {k : Int} (h : k = 4 ∨ k = 5 ∨ k = 6) : arF k = 2 := if_pos h
theorem arF_1 {k : Int} (h : k = 7 ∨ k = 8) : arF k = 1 := by unfold arF; rw [if_neg (by omega), if_pos h]
theorem arF_0 {k : Int} (h : ¬ (k = 4 ∨ k = 5 ∨ k = 6)) (h2 : ¬ (k = 7 ∨ k = 8)) : arF k = 0 := by unfold arF; rw [if_neg h, if_neg h2]
theorem nodeE_ops {n : NodeV} {i : Int} (h : nodeE n i = 0) : opsOk n i := by
  unfold nodeE at h
  split at h
  · cases h
  · split at h
    · cases h
    · rename_i h2; exact Classical.not_not.1 h2
theorem ops_l {n : NodeV} {i : Int} (h : opsOk n i) (ha : 0 < arF n.kind) : 0 ≤ n.l ∧ n.l < i := by have := h.1; rwa [if_pos ha] at this
theorem ops_r {n : NodeV} {i : Int} (h : opsOk n i) (ha : 1 < arF n.kind) : 0 ≤ n.r ∧ n.r < i := by have := h.2; rwa [if_pos ha] at this
theorem stepC_len (cs : List Nat) (n : NodeV) : (stepC cs n).length = cs.length := by unfold stepC; split <;> (try split) <;> simp
theorem mod_le {cs : List Nat} {i b : Nat} (h : ∀ x ∈ cs, x ≤ b) : ∀ x ∈ cs.modify i (· + 1), x ≤ b + 1 := by
  intro x hx
  obtain ⟨j, hj, hx⟩ := List.getElem_of_mem hx
  rw [List.getElem_modify] at hx
  have := h (cs[j]'(by simpa using hj)) (List.getElem_mem _)
  split at hx <;> omega
theorem stepC_le {cs : List Nat} {n : NodeV} {b : Nat} (h : ∀ x ∈ cs, x ≤ b) : ∀ x ∈ stepC cs n, x ≤ b + 2 := by
  unfold stepC; split
  · exact mod_le (mod_le h)
  · split
    · intro x hx; have := mod_le h x hx; omega
    · intro x hx; have := h x hx; omega
def natV (n : Nat) : Value := .int .i64 (n : Int)
theorem set_mod {cs : List Nat} {i : Nat} (h : i < cs.length) : (cs.map natV).set i (.int .i64 ((cs[i] + 1 : Nat) : Int)) = (cs.modify i (· + 1)).map natV := by
  apply List.ext_getElem
  · simp
  · intro j h1 h2
    rw [List.getElem_set, List.getElem_map, List.getElem_map, List.getElem_modify]
    split
    · rename_i h3; subst h3; rfl
    · rfl
theorem ints_nat {G : Ghost} {v : Value} {n : Nat} {cs : List Nat} (h : Sl G v 1 n (cs.map natV)) (hn : n = cs.length) : Ints G v (cs.map fun n : Nat => (n : Int)) := by
  subst hn
  show Sl G v 1 (cs.map fun n : Nat => (n : Int)).length ((cs.map fun n : Nat => (n : Int)).map (.int .i64))
  rw [List.length_map, List.map_map]; exact h
theorem errF_step {l : List NodeV} {k : Nat} (h : k < l.length) (h0 : nodeE l[k] k = 0) : errF k (l.drop k) = errF (k + 1) (l.drop (k + 1)) := by
  rw [List.drop_eq_getElem_cons h, errF, if_pos h0]
theorem errF_bad {l : List NodeV} {k : Nat} (h : k < l.length) (h0 : ¬ nodeE l[k] k = 0) : errF k (l.drop k) = nodeE l[k] k := by
  rw [List.drop_eq_getElem_cons h, errF, if_neg h0]
theorem ones_all {cs : List Nat} {m : Nat} (h : ∀ i, i < m → cs.getD i 0 = 1) : onesF cs m = true := by
  unfold onesF
  rw [List.all_eq_true]
  intro x hx
  obtain ⟨j, hj, rfl⟩ := List.getElem_of_mem hx
  rw [List.length_take] at hj
  have := h j (by omega)
  rw [List.getD_eq_getElem?_getD, List.getElem?_eq_getElem (by omega)] at this
  simpa using this
theorem ones_not {cs : List Nat} {m i : Nat} (hi : i < m) (hl : i < cs.length) (h : ¬ cs[i] = 1) : onesF cs m = false := by
  unfold onesF
  rw [List.all_eq_false]
  exact ⟨cs[i], List.mem_of_getElem? (i := i) (by rw [List.getElem?_take_of_lt hi, List.getElem?_eq_getElem hl]), by simpa using h⟩
theorem valid_big {l : List NodeV} (h : 200 < l.length) : validF l = 2 := if_pos h
theorem valid_nil {l : List NodeV} (h : l.length = 0) : validF l = 1 := by unfold validF; rw [if_neg (by omega), if_pos h]
theorem valid_err {l : List NodeV} (h1 : ¬ 200 < l.length) (h2 : ¬ l.length = 0) (h : ¬ errF 0 l = 0) : validF l = errF 0 l := by unfold validF; rw [if_neg h1, if_neg h2, if_neg h]
theorem valid_cnt {l : List NodeV} (h1 : ¬ 200 < l.length) (h2 : ¬ l.length = 0) (h : errF 0 l = 0) : validF l = if onesF (cntF l) (l.length - 1) = true then 0 else 1 := by unfold validF; rw [if_neg h1, if_neg h2, if_pos h]
end Go.Proofs.YtkmgbcjfidpmgaaGreatDoor
