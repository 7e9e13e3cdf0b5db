/- Package regex: what the laws say of the reference's expressions. -/
import Derived.Test.YtkmgbcjfidpmgaaGreatDoorExWalks8
import Derived.Test.YtkmgbcjfidpmgaaGreatDoorMade
import Derived.Test.YtkmgbcjfidpmgaaGreatDoorBits
namespace Go.Proofs.YtkmgbcjfidpmgaaGreatDoor
open Go Go.Ex

/-- A tree's nodes match what the tree matches. -/
theorem match_nodes {t : Rg} (h : TreeOk t) (hs : sizeT t ≤ 200) (b : List UInt8) : matchF (nodesT 0 t) b = matchB t b := by
  unfold matchF
  rw [if_pos (nodes_valid h hs), nodesT_len]
  unfold endsN matchB
  rw [tree_of h]
theorem match_iff {t : Rg} (h : TreeOk t) (hs : sizeT t ≤ 200) (b : List UInt8) : matchF (nodesT 0 t) b = true ↔ Lang t b := by
  rw [match_nodes h hs]; exact match_lang h.rg b

theorem bool_iff {p q : Bool} (h : p = true ↔ q = true) : p = q := Bool.eq_iff_iff.2 h
theorem match_alt {a b : Rg} (ha : TreeOk a) (hb : TreeOk b) (h1 : sizeT a ≤ 80) (h2 : sizeT b ≤ 80) (w : List UInt8) : matchF (nodesT 0 (.alt a b)) w = (matchF (nodesT 0 a) w || matchF (nodesT 0 b) w) := by
  apply bool_iff
  rw [match_iff (t := .alt a b) ⟨ha, hb⟩ (by simp only [sizeT]; omega), Bool.or_eq_true, match_iff ha (by omega), match_iff hb (by omega)]; rfl
theorem match_and {a b : Rg} (ha : TreeOk a) (hb : TreeOk b) (h1 : sizeT a ≤ 80) (h2 : sizeT b ≤ 80) (w : List UInt8) : matchF (nodesT 0 (.and a b)) w = (matchF (nodesT 0 a) w && matchF (nodesT 0 b) w) := by
  apply bool_iff
  rw [match_iff (t := .and a b) ⟨ha, hb⟩ (by simp only [sizeT]; omega), Bool.and_eq_true, match_iff ha (by omega), match_iff hb (by omega)]; rfl
theorem match_not {a : Rg} (ha : TreeOk a) (h1 : sizeT a ≤ 80) (w : List UInt8) : matchF (nodesT 0 (.not a)) w = !matchF (nodesT 0 a) w := by
  apply bool_iff
  rw [match_iff (t := .not a) ha (by simp only [sizeT]; omega), Bool.not_eq_true', ← Bool.not_eq_true, match_iff ha (by omega)]; rfl
/-- The splits of a word, up to an index. -/
def splitsF (x y : List NodeV) (w : List UInt8) (n : Nat) : Bool := (List.range n).any fun i => matchF x (w.take i) && matchF y (w.drop i)
theorem splits_succ (x y : List NodeV) (w : List UInt8) (n : Nat) : splitsF x y w (n + 1) = (splitsF x y w n || (matchF x (w.take n) && matchF y (w.drop n))) := by
  unfold splitsF; rw [List.range_succ, List.any_append]; simp
theorem match_cat {a b : Rg} (ha : TreeOk a) (hb : TreeOk b) (h1 : sizeT a ≤ 80) (h2 : sizeT b ≤ 80) (w : List UInt8) : matchF (nodesT 0 (.cat a b)) w = splitsF (nodesT 0 a) (nodesT 0 b) w (w.length + 1) := by
  apply bool_iff
  rw [match_iff (t := .cat a b) ⟨ha, hb⟩ (by simp only [sizeT]; omega)]
  unfold splitsF
  rw [List.any_eq_true]
  constructor
  · rintro ⟨u, v, rfl, hu, hv⟩
    refine ⟨u.length, List.mem_range.2 (by rw [List.length_append]; omega), ?_⟩
    rw [Bool.and_eq_true, List.take_left, List.drop_left, match_iff ha (by omega), match_iff hb (by omega)]
    exact ⟨hu, hv⟩
  · rintro ⟨i, hi, h⟩
    rw [Bool.and_eq_true, match_iff ha (by omega), match_iff hb (by omega)] at h
    exact ⟨_, _, (List.take_append_drop i w).symm, h.1, h.2⟩
theorem rep_zero {a : Rg} {mn : Int} (h : mn ≤ 0) (w : List UInt8) : Lang (.rep mn 0 a) w ↔ w = [] := by
  constructor
  · rintro ⟨k, _, h2, h3⟩
    obtain rfl : k = 0 := by omega
    exact h3
  · intro hw; exact ⟨0, by omega, .inr (Int.le_refl 0), hw⟩
theorem rep_more {a : Rg} {mn mx : Int} (h0 : 0 ≤ mn) (hx : mx < 0 ∨ (1 ≤ mx ∧ mn ≤ mx)) (w : List UInt8) : Lang (.rep mn mx a) w ↔ (mn = 0 ∧ w = []) ∨ Lang (.cat a (.rep (if 0 ≤ mn - 1 then mn - 1 else 0) (if mx < 0 then -1 else mx - 1) a)) w := by
  constructor
  · rintro ⟨k, h1, h2, h3⟩
    cases k with
    | zero => exact .inl ⟨by omega, h3⟩
    | succ k =>
      obtain ⟨u, v, rfl, hu, hv⟩ := h3
      refine .inr ⟨u, v, rfl, hu, k, ?_, ?_, hv⟩
      · split <;> omega
      · split
        · exact .inl (by decide)
        · exact .inr (by omega)
  · rintro (⟨h, rfl⟩ | ⟨u, v, rfl, hu, k, h1, h2, hv⟩)
    · exact ⟨0, by omega, by omega, rfl⟩
    · refine ⟨k + 1, ?_, ?_, u, v, rfl, hu, hv⟩
      · split at h1 <;> omega
      · split at h2 <;> omega
theorem match_rep0 {a : Rg} (ha : TreeOk a) (h1 : sizeT a ≤ 80) (w : List UInt8) : matchF (nodesT 0 (.rep 0 0 a)) w = decide (w.length = 0) := by
  apply bool_iff
  rw [match_iff (t := .rep 0 0 a) ⟨by decide, by decide, by decide, .inr (by decide), ha⟩ (by simp only [sizeT]; omega), rep_zero (by decide), decide_eq_true_iff, List.length_eq_zero_iff]
theorem match_rep {a : Rg} {mn mx : Int} (ha : TreeOk a) (h1 : sizeT a ≤ 80) (h0 : 0 ≤ mn) (hm : mn ≤ 16) (hx : mx = -1 ∨ (1 ≤ mx ∧ mn ≤ mx ∧ mx ≤ 16)) (w : List UInt8) :
    matchF (nodesT 0 (.rep mn mx a)) w = (decide (mn = 0) && decide (w.length = 0) || matchF (nodesT 0 (.cat a (.rep (if 0 ≤ mn - 1 then mn - 1 else 0) (if mx < 0 then -1 else mx - 1) a))) w) := by
  apply bool_iff
  have hr : TreeOk (.rep (if 0 ≤ mn - 1 then mn - 1 else 0) (if mx < 0 then -1 else mx - 1) a) := by
    refine ⟨by split <;> omega, by split <;> omega, by split <;> omega, ?_, ha⟩
    rcases hx with rfl | ⟨h2, h3, h4⟩
    · exact .inl (if_pos (by decide))
    · right; rw [if_neg (show ¬ mx < 0 by omega)]; split <;> omega
  rw [match_iff (t := .rep mn mx a) ⟨h0, hm, by omega, by omega, ha⟩ (by simp only [sizeT]; omega), rep_more h0 (by omega), Bool.or_eq_true, Bool.and_eq_true, decide_eq_true_iff, decide_eq_true_iff, List.length_eq_zero_iff,
    match_iff (t := .cat a _) ⟨ha, hr⟩ (by simp only [sizeT]; omega)]

theorem match_repU {a : Rg} {k : Nat} (ha : TreeOk a) (h1 : sizeT a ≤ 80) (hk : k ≤ 16) (w : List UInt8) :
    matchF (nodesT 0 (.rep (k : Int) (-1) a)) w = (decide (k = 0) && decide (w.length = 0) || matchF (nodesT 0 (.cat a (.rep ((k - 1 : Nat) : Int) (-1) a))) w) := by
  rw [match_rep ha h1 (by omega) (by omega) (.inl rfl), show (if 0 ≤ (k : Int) - 1 then (k : Int) - 1 else 0) = ((k - 1 : Nat) : Int) by split <;> omega, if_pos (show (-1 : Int) < 0 by decide), show decide ((k : Int) = 0) = decide (k = 0) from decide_eq_decide.2 (by omega)]
theorem match_repB {a : Rg} {k n : Nat} (ha : TreeOk a) (h1 : sizeT a ≤ 80) (hk : k ≤ n) (h0 : 1 ≤ n) (hn : n ≤ 16) (w : List UInt8) :
    matchF (nodesT 0 (.rep (k : Int) (n : Int) a)) w = (decide (k = 0) && decide (w.length = 0) || matchF (nodesT 0 (.cat a (.rep ((k - 1 : Nat) : Int) ((n : Int) - 1) a))) w) := by
  rw [match_rep ha h1 (by omega) (by omega) (.inr ⟨by omega, by omega, by omega⟩), show (if 0 ≤ (k : Int) - 1 then (k : Int) - 1 else 0) = ((k - 1 : Nat) : Int) by split <;> omega, if_neg (show ¬ (n : Int) < 0 by omega), show decide ((k : Int) = 0) = decide (k = 0) from decide_eq_decide.2 (by omega)]
theorem match_repZ {a : Rg} {k n : Nat} (ha : TreeOk a) (h1 : sizeT a ≤ 80) (hk : k = 0) (hn : n = 0) (w : List UInt8) : matchF (nodesT 0 (.rep (k : Int) (n : Int) a)) w = decide (w.length = 0) := by
  subst hk hn; exact match_rep0 ha h1 w

/-! ### spoiled expressions -/
theorem valid_snoc {pre : List NodeV} {n : NodeV} (he : errF 0 pre = 0) (hl : pre.length < 200) (hn : ¬ nodeE n pre.length = 0) : validF (pre ++ [n]) = nodeE n pre.length := by
  have e : errF 0 (pre ++ [n]) = nodeE n pre.length := by rw [errF_app, if_pos he, Nat.zero_add, errF, if_neg hn]
  rw [valid_err (by simp; omega) (by simp) (by rw [e]; exact hn), e]
theorem snoc_err {pre : List NodeV} {n : NodeV} (h : errF 0 (pre ++ [n]) = 0) : errF 0 pre = 0 ∧ nodeE n pre.length = 0 := by
  rw [errF_app] at h
  by_cases h1 : errF 0 pre = 0
  · rw [if_pos h1, Nat.zero_add, errF] at h
    refine ⟨h1, ?_⟩
    by_cases h2 : nodeE n pre.length = 0
    · exact h2
    · rw [if_neg h2] at h; exact h
  · rw [if_neg h1] at h; exact absurd h h1
theorem spoil_kind {n : NodeV} {i : Nat} {k : Int} (hk : k < 1 ∨ 8 < k) : nodeE { n with kind := k } i = 1 := by unfold nodeE; rw [if_pos hk]
theorem spoil_l {n : NodeV} {i : Nat} {l : Int} (hk : 1 ≤ n.kind ∧ n.kind ≤ 8) (hl : l < 0 ∨ (0 < l ∧ (i : Int) ≤ l)) : nodeE { n with l := l } i = 1 := by
  unfold nodeE
  rw [if_neg (show ¬ (n.kind < 1 ∨ 8 < n.kind) by omega), if_pos]
  intro h
  have h1 := h.1
  have h1 : if 0 < arF n.kind then 0 ≤ l ∧ l < (i : Int) else l = 0 := h1
  split at h1 <;> omega
theorem un_valid {x : List NodeV} (hx : IsTree x) {mn mx e : Int} (hl : x.length < 200) (hn : nodeE ⟨8, noC, (x.length : Int) - 1, 0, mn, mx⟩ x.length = e) (he : ¬ e = 0) : validF (x ++ [⟨8, noC, (x.length : Int) - 1, 0, mn, mx⟩]) = e := by
  obtain ⟨t, ht, _, rfl⟩ := hx
  rw [valid_snoc (nodes_err t 0 ht) hl (by rw [hn]; exact he), hn]
theorem eps_valid {x : List NodeV} (hx : IsTree x) (hl : x.length < 200) : validF (x ++ [leafN 2 noC]) = 1 := by
  obtain ⟨t, ht, _, rfl⟩ := hx
  have hp := sizeT_pos t
  have hlen := nodesT_len t 0
  rw [valid_cnt (by simp; omega) (by simp) (by rw [errF_app, if_pos (nodes_err t 0 ht), errF, if_pos (nodeE_leaf (.inr (.inl ⟨rfl, rfl⟩)))]; rfl)]
  have hcl : (cntF (nodesT 0 t ++ [leafN 2 noC])).length = sizeT t + 1 := by unfold cntF; rw [fold_len, List.length_replicate]; simp; omega
  rw [ones_not (i := sizeT t - 1) (by simp; omega) (by omega)]
  · rfl
  · intro h1
    have h2 : (cntF (nodesT 0 t ++ [leafN 2 noC])).getD (sizeT t - 1) 0 = 1 := by rw [List.getD_eq_getElem?_getD, List.getElem?_eq_getElem (by omega)]; exact h1
    unfold cntF at h2
    rw [List.foldl_append, leaf_cur (o := 0) (.inr (.inl rfl))] at h2
    unfold cur at h2
    rw [if_neg (by simp), nodes_cur t 0 _ (by rw [List.length_replicate]; simp; omega) _ (by rw [List.length_replicate]; simp; omega)] at h2
    unfold cur at h2
    rw [if_neg (by omega), List.getD_eq_getElem?_getD, List.getElem?_eq_getElem (by rw [List.length_replicate]; simp; omega)] at h2
    simp at h2
theorem spoil_valid {x : List NodeV} (hx : IsTree x) {j : Nat} (hl : x.length = j + 1) (hj : j < 199) {n : NodeV} {e : Int} (hn : nodeE n j = e) (he : ¬ e = 0) : validF (x.take j ++ [n]) = e := by
  obtain ⟨t, ht, _, rfl⟩ := hx
  have hlen : ((nodesT 0 t).take j).length = j := by rw [List.length_take]; omega
  have h0 := nodes_err t 0 ht
  rw [← List.take_append_drop j (nodesT 0 t), errF_app] at h0
  have h1 : errF 0 ((nodesT 0 t).take j) = 0 := by
    by_cases h : errF 0 ((nodesT 0 t).take j) = 0
    · exact h
    · rw [if_neg h] at h0; exact h0
  rw [valid_snoc h1 (by omega) (by rw [hlen, hn]; exact he), hlen, hn]
theorem nodeE_rep (j : Nat) (mn mx : Int) : nodeE ⟨8, noC, (j : Int), 0, mn, mx⟩ ((j + 1 : Nat) : Int) = if mn < 0 ∨ mx < -1 then 1 else if 16 < mn ∨ 16 < mx then 2 else if mx ≠ -1 ∧ mx < mn then 1 else 0 := by
  have ho : opsOk ⟨8, noC, (j : Int), 0, mn, mx⟩ ((j + 1 : Nat) : Int) := by
    unfold opsOk
    show (if 0 < arF 8 then 0 ≤ (j : Int) ∧ (j : Int) < ((j + 1 : Nat) : Int) else (j : Int) = 0) ∧ (if 1 < arF 8 then 0 ≤ (0 : Int) ∧ (0 : Int) < ((j + 1 : Nat) : Int) else (0 : Int) = 0)
    rw [if_pos (by decide), if_neg (by decide)]; exact ⟨⟨by omega, by omega⟩, rfl⟩
  unfold nodeE
  rw [if_neg (show ¬ ((8 : Int) < 1 ∨ 8 < (8 : Int)) by decide), if_neg (fun h => h ho), if_neg (fun h => h.2 rfl), if_neg (show ¬ (8 : Int) ≠ 8 by decide)]
theorem rep_big (j : Nat) : nodeE ⟨8, noC, (j : Int), 0, 17, 0⟩ ((j + 1 : Nat) : Int) = 2 := by rw [nodeE_rep]; rfl
theorem rep_bad (j : Nat) : nodeE ⟨8, noC, (j : Int), 0, 2, 1⟩ ((j + 1 : Nat) : Int) = 1 := by rw [nodeE_rep]; rfl
theorem un_valid' {x : List NodeV} (hx : IsTree x) {j : Nat} (hl : x.length = j + 1) (hj : j < 190) {mn mx e : Int} (hn : nodeE ⟨8, noC, (j : Int), 0, mn, mx⟩ ((j + 1 : Nat) : Int) = e) (he : ¬ e = 0) :
    validF ((x ++ ([⟨8, noC, (j : Int), 0, mn, mx⟩] : List NodeV)).take (j + 1) ++ [⟨8, noC, (j : Int), 0, mn, mx⟩]) = e := by
  rw [List.take_left' hl]
  have h := un_valid (mn := mn) (mx := mx) (e := e) hx (by omega) (by rw [hl, show (((j + 1 : Nat) : Int)) - 1 = (j : Int) by omega]; exact hn) he
  rwa [hl, show (((j + 1 : Nat) : Int)) - 1 = (j : Int) by omega] at h
theorem eps_valid' {x : List NodeV} (hx : IsTree x) {j : Nat} (hl : x.length = j + 1) (hj : j < 190) : validF ((x ++ [leafN 2 noC]).take (j + 1) ++ [leafN 2 noC]) = 1 := by
  rw [List.take_left' hl]; exact eps_valid hx (by omega)
theorem format_bad {l : List NodeV} {e : Int} (h : validF l = e) (he : ¬ e = 0) : formatF l = ([], e) := by unfold formatF; rw [h, if_neg he]
theorem match_bad {l : List NodeV} {e : Int} (h : validF l = e) (he : ¬ e = 0) (b : List UInt8) : matchF l b = false := by unfold matchF; rw [h, if_neg he]
end Go.Proofs.YtkmgbcjfidpmgaaGreatDoor
