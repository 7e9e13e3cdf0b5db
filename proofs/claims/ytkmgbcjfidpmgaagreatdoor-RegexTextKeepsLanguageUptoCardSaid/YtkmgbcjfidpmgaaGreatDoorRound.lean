/- Package regex: texts and expressions, there and back. -/
import Derived.Test.YtkmgbcjfidpmgaaGreatDoorText2
import Derived.Test.YtkmgbcjfidpmgaaGreatDoorErrs
import Derived.Test.YtkmgbcjfidpmgaaGreatDoorLaws
namespace Go.Proofs.YtkmgbcjfidpmgaaGreatDoor
open Go Go.Ex

theorem format_nodes {t : Rg} (ht : TreeOk t) (hs : sizeT t ≤ 200) : formatF (nodesT 0 t) = if 4000 < (txt t).length then ([], 2) else (txt t, 0) := by
  rw [format_tree (nodes_valid ht hs) (nodes_cls t 0 ht), nodesT_len, tree_of ht]
theorem format_short {t : Rg} (ht : TreeOk t) (hsh : ShortT t) (hs : sizeT t ≤ 80) : formatF (nodesT 0 t) = (txt t, 0) := by
  have := txt_short t hsh
  rw [format_nodes ht (by omega), if_neg (by omega)]
theorem fmt_cases {t : Rg} (ht : TreeOk t) (hs : sizeT t ≤ 200) {u : List UInt8} {e : Int} (h : formatF (nodesT 0 t) = (u, e)) : e = 2 ∨ (e = 0 ∧ u = txt t ∧ (txt t).length ≤ 4000) := by
  rw [format_nodes ht hs] at h
  by_cases h4 : 4000 < (txt t).length
  · rw [if_pos h4] at h; injection h with _ h2; exact .inl h2.symm
  · rw [if_neg h4] at h; injection h with h1 h2; exact .inr ⟨h2.symm, h1.symm, by omega⟩
theorem parse_short {t : Rg} (ht : TreeOk t) (hsh : ShortT t) (hs : sizeT t ≤ 80) : ∃ f, parseP (txt t) f = some (.ok (nodesT 0 t)) := by
  have := txt_short t hsh
  exact parse_txt ht (by omega) (by omega)
theorem resN_err {r : Except Er (List NodeV)} (h : resE r ≠ 0) : (resN r).length = 0 := by
  cases r with
  | error e => rfl
  | ok l => exact absurd rfl h
theorem resN_len {s : List UInt8} {f : Nat} {r : Except Er (List NodeV)} (h : parseP s f = some r) : (resN r).length ≤ 200 := by
  cases r with
  | error e => exact Nat.zero_le _
  | ok l => exact parse_size h
theorem res_ok {s : List UInt8} {f : Nat} {r : Except Er (List NodeV)} (h : parseP s f = some r) (h0 : resE r = 0) : ∃ t, TreeOk t ∧ sizeT t ≤ 200 ∧ r = .ok (nodesT 0 t) := by
  cases r with
  | error e => exact absurd h0 (parse_nz h)
  | ok l =>
    obtain ⟨t, ht, rfl⟩ := parse_tree h
    have hl := parse_size h
    rw [nodesT_len] at hl
    exact ⟨t, ht, hl, rfl⟩
/-- The nodes of two trees under an alternative that names the second one first. -/
def swapL (a b : Rg) : List NodeV := nodesT 0 a ++ nodesT (sizeT a) b ++ [binN 5 ((sizeT a + sizeT b : Nat) - 1) ((sizeT a : Nat) - 1)]
theorem mod_comm (cs : List Nat) (i j : Nat) : (cs.modify i (· + 1)).modify j (· + 1) = (cs.modify j (· + 1)).modify i (· + 1) := by
  apply List.ext_getElem
  · simp
  · intro k h1 h2
    simp only [List.getElem_modify]
    split <;> split <;> rfl
theorem swap_len (a b : Rg) : (swapL a b).length = sizeT a + sizeT b + 1 := by simp [swapL, nodesT_len]; omega
theorem swap_err {a b : Rg} (ha : TreeOk a) (hb : TreeOk b) : errF 0 (swapL a b) = 0 := by
  have := sizeT_pos a; have := sizeT_pos b
  unfold swapL
  rw [List.append_assoc, errF_app, if_pos (nodes_err a 0 ha), nodesT_len, errF_app, Nat.zero_add, if_pos (nodes_err b _ hb), nodesT_len, errF, if_pos (nodeE_bin (.inr (.inl rfl)) (by omega) (by omega) (by omega) (by omega))]; rfl
theorem swap_cnt (a b : Rg) : cntF (swapL a b) = cntF (nodesT 0 (.alt a b)) := by
  have h1 : (swapL a b).length = (nodesT 0 (.alt a b)).length := by rw [swap_len, nodesT_len]; rfl
  have hp := sizeT_pos a; have hq := sizeT_pos b
  unfold cntF
  rw [h1]
  unfold swapL
  have e1 : ∀ (n : NodeV) (cs : List Nat), (nodesT 0 a ++ nodesT (sizeT a) b ++ [n]).foldl stepC cs = stepC ((nodesT 0 a ++ nodesT (sizeT a) b).foldl stepC cs) n := fun n cs => by rw [List.foldl_append]; rfl
  rw [nodesT, Nat.zero_add, e1, e1, show (((sizeT a + sizeT b : Nat) : Int) - 1) = ((sizeT a + sizeT b - 1 : Nat) : Int) by omega, show (((sizeT a : Nat) : Int) - 1) = ((sizeT a - 1 : Nat) : Int) by omega, cnt_bin (.inr (.inl rfl)), cnt_bin (.inr (.inl rfl)), mod_comm]
theorem swap_valid {a b : Rg} (ha : TreeOk a) (hb : TreeOk b) (hs : sizeT a + sizeT b + 1 ≤ 200) : validF (swapL a b) = 0 := by
  have hl := swap_len a b
  have hv := nodes_valid (t := .alt a b) ⟨ha, hb⟩ hs
  rw [valid_cnt (by rw [nodesT_len]; show ¬ 200 < sizeT a + sizeT b + 1; omega) (by rw [nodesT_len]; show ¬ sizeT a + sizeT b + 1 = 0; omega) (nodes_err (.alt a b) 0 ⟨ha, hb⟩)] at hv
  rw [valid_cnt (by omega) (by omega) (swap_err ha hb), swap_cnt, hl]
  rwa [nodesT_len] at hv
theorem swap_tree {a b : Rg} (ha : TreeOk a) (hb : TreeOk b) : treeA (swapL a b) (sizeT a + sizeT b) = .alt b a := by
  have he := swap_err ha hb
  have hp := sizeT_pos a; have hq := sizeT_pos b
  have hl := swap_len a b
  have h1 := tree_nodes a 0 (swapL a b) [] _ he rfl (by unfold swapL; rw [List.append_assoc]; try rfl)
  have h2 := tree_nodes b (sizeT a) (swapL a b) (nodesT 0 a) _ he (nodesT_len a 0) (by unfold swapL; rw [List.append_assoc]; try rfl)
  have hi : sizeT a + sizeT b < (swapL a b).length := by omega
  have hn : (swapL a b)[sizeT a + sizeT b] = binN 5 ((sizeT a + sizeT b : Nat) - 1) ((sizeT a : Nat) - 1) := by
    have hA : (nodesT 0 a ++ nodesT (sizeT a) b).length = sizeT a + sizeT b := by rw [List.length_append, nodesT_len, nodesT_len]
    exact at_end (A := nodesT 0 a ++ nodesT (sizeT a) b) (B := []) hA.symm hi
  rw [treeA_eq he hi, hn]
  show mkT (binN 5 _ _) (treeA (swapL a b) (((sizeT a + sizeT b : Nat) : Int) - 1).toNat) (treeA (swapL a b) (((sizeT a : Nat) : Int) - 1).toNat) = _
  rw [show (((sizeT a + sizeT b : Nat) : Int) - 1).toNat = sizeT a + sizeT b - 1 by omega, show (((sizeT a : Nat) : Int) - 1).toNat = 0 + sizeT a - 1 by omega, h2, h1]; rfl
theorem swap_cls {a b : Rg} (ha : TreeOk a) (hb : TreeOk b) : ∀ n ∈ swapL a b, ClsOk n.c := fun n hn => by
  rcases List.mem_append.1 hn with h | h
  · rcases List.mem_append.1 h with h | h
    · exact nodes_cls a _ ha n h
    · exact nodes_cls b _ hb n h
  · rw [List.mem_singleton] at h; subst h; exact noC_ok
theorem swap_format {a b : Rg} (ha : TreeOk a) (hb : TreeOk b) (sa : ShortT a) (sb : ShortT b) (hs : sizeT a + sizeT b + 1 ≤ 80) : formatF (swapL a b) = (txt (.alt b a), 0) := by
  have hsh := txt_short (.alt b a) ⟨sb, sa⟩
  have h1 : sizeT (.alt b a) = sizeT b + sizeT a + 1 := rfl
  rw [format_tree (swap_valid ha hb (by omega)) (swap_cls ha hb), swap_len, Nat.add_sub_cancel, swap_tree ha hb, if_neg (by omega)]
theorem swap_match {a b : Rg} (ha : TreeOk a) (hb : TreeOk b) (hs : sizeT a + sizeT b + 1 ≤ 200) (w : List UInt8) : matchF (swapL a b) w = matchF (nodesT 0 (.alt b a)) w := by
  rw [match_nodes (t := .alt b a) ⟨hb, ha⟩ (by show sizeT b + sizeT a + 1 ≤ 200; omega)]
  unfold matchF
  rw [if_pos (swap_valid ha hb hs), swap_len, Nat.add_sub_cancel]
  unfold endsN matchB
  rw [swap_tree ha hb]
end Go.Proofs.YtkmgbcjfidpmgaaGreatDoor
