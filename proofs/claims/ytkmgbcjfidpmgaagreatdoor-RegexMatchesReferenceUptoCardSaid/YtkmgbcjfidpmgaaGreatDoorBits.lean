/- Package regex: the members of a set, as the code's words give them, are its members in order. -/
import Derived.Test.YtkmgbcjfidpmgaaGreatDoorTree
namespace Go.Proofs.YtkmgbcjfidpmgaaGreatDoor
open Go Go.Ex

theorem split_low : ∀ w : Nat, w ≠ 0 → ∃ j m, w = 2 ^ j * (2 * m + 1) := by
  intro w
  induction w using Nat.strongRecOn with
  | ind w ih =>
    intro h
    rcases Nat.mod_two_eq_zero_or_one w with h2 | h2
    · obtain ⟨j, m, e⟩ := ih (w / 2) (by omega) (by omega)
      refine ⟨j + 1, m, ?_⟩
      rw [Nat.pow_succ, Nat.mul_comm (2 ^ j) 2, Nat.mul_assoc, ← e]; omega
    · exact ⟨0, w / 2, by rw [Nat.pow_zero, Nat.one_mul]; omega⟩
theorem bit_hi (j m i : Nat) : (2 ^ j * (2 * m + 1)).testBit i = if i < j then false else if i = j then true else m.testBit (i - j - 1) := by
  rw [Nat.testBit_two_pow_mul]
  by_cases h : i < j
  · rw [if_pos h]; simp; omega
  · rw [if_neg h]
    by_cases h2 : i = j
    · subst h2; rw [if_pos rfl]; simp [Nat.testBit_zero, Nat.add_mod]
    · rw [if_neg h2]
      obtain ⟨k, rfl⟩ : ∃ k, i = j + (k + 1) := ⟨i - j - 1, by omega⟩
      rw [show j + (k + 1) - j = k + 1 by omega, Nat.testBit_succ, show (2 * m + 1) / 2 = m by omega, show k + 1 - 1 = k by omega]
      simp
theorem bit_lo (j m i : Nat) : (2 ^ (j + 1) * m).testBit i = if i < j + 1 then false else m.testBit (i - j - 1) := by
  rw [Nat.testBit_two_pow_mul]
  by_cases h : i < j + 1
  · rw [if_pos h]; simp; omega
  · rw [if_neg h, show i - (j + 1) = i - j - 1 by omega]; simp; omega
theorem and_pred (j m : Nat) : 2 ^ j * (2 * m + 1) &&& (2 ^ j * (2 * m + 1) - 1) = 2 ^ (j + 1) * m := by
  have hp : 0 < 2 ^ j := Nat.pow_pos (by decide)
  apply Nat.eq_of_testBit_eq; intro i
  rw [Nat.testBit_and, bit_hi, bit_lo]
  have e : 2 ^ j * (2 * m + 1) - 1 = 2 ^ j * (2 * m) + (2 ^ j - 1) := by rw [Nat.mul_add, Nat.mul_one]; omega
  rw [e, Nat.testBit_two_pow_mul_add (2 * m) (by omega) i]
  by_cases h : i < j
  · rw [if_pos h, if_pos h, if_pos (by omega)]; rfl
  · rw [if_neg h, if_neg h]
    by_cases h2 : i = j
    · subst h2; rw [if_pos rfl, if_pos (by omega)]; simp [Nat.testBit_zero]
    · rw [if_neg h2, if_neg (by omega)]
      obtain ⟨k, rfl⟩ : ∃ k, i = j + (k + 1) := ⟨i - j - 1, by omega⟩
      rw [show j + (k + 1) - j = k + 1 by omega, Nat.testBit_succ, show (2 * m) / 2 = m by omega, show k + 1 - 1 = k by omega]; simp
theorem and_compl (k m : Nat) (h : m < 2 ^ k) : m &&& (2 ^ k - (m + 1)) = 0 := by
  apply Nat.eq_of_testBit_eq; intro i
  rw [Nat.testBit_and, Nat.testBit_two_pow_sub_succ h, Nat.zero_testBit]
  cases m.testBit i <;> simp
theorem low_eq {w j m : Nat} (hw : w = 2 ^ j * (2 * m + 1)) (hlt : w < W64) : j < 64 ∧ and64 w (sub64 0 w) = 2 ^ j := by
  have hp : 0 < 2 ^ j := Nat.pow_pos (by decide)
  have hj : j < 64 := by
    rcases Nat.lt_or_ge j 64 with h' | h'
    · exact h'
    · have h1 : 2 ^ 64 ≤ 2 ^ j := Nat.pow_le_pow_right (by decide) h'
      have h2 : 2 ^ j * 1 ≤ 2 ^ j * (2 * m + 1) := Nat.mul_le_mul_left _ (by omega)
      unfold W64 at hlt; omega
  refine ⟨hj, ?_⟩
  have h64 : W64 = 2 ^ j * (2 * 2 ^ (63 - j)) := by
    rw [show 2 * 2 ^ (63 - j) = 2 ^ (63 - j + 1) by rw [Nat.pow_succ, Nat.mul_comm], ← Nat.pow_add, show j + (63 - j + 1) = 64 by omega]
  have hm : m < 2 ^ (63 - j) := by
    rw [hw, h64] at hlt
    have := Nat.lt_of_mul_lt_mul_left hlt; omega
  have hw0 : 0 < w := by rw [hw]; exact Nat.mul_pos hp (by omega)
  have hs : sub64 0 w = 2 ^ j * (2 * (2 ^ (63 - j) - (m + 1)) + 1) := by
    unfold sub64
    rw [Nat.mod_eq_of_lt hlt, Nat.zero_add, Nat.mod_eq_of_lt (by omega), h64, hw, ← Nat.mul_sub, show 2 * 2 ^ (63 - j) - (2 * m + 1) = 2 * (2 ^ (63 - j) - (m + 1)) + 1 by omega]
  unfold and64
  rw [Nat.mod_eq_of_lt hlt, Nat.mod_eq_of_lt (by unfold sub64; exact Nat.mod_lt _ (by unfold W64; decide)), hs, hw]
  apply Nat.eq_of_testBit_eq; intro i
  rw [Nat.testBit_and, bit_hi, bit_hi, Nat.testBit_two_pow]
  by_cases h : i < j
  · rw [if_pos h]; simp; omega
  · rw [if_neg h, if_neg h]
    by_cases h2 : i = j
    · subst h2; simp
    · rw [if_neg h2, if_neg h2, ← Nat.testBit_and, and_compl _ _ hm, Nat.zero_testBit]; simp; omega
theorem tab_low : ∀ j : Fin 64, tab64.getD (mul64 (2 ^ j.val) 285870213051353865 / 2 ^ 58) 0 = j.val := by decide +kernel
theorem tz_low {w j m : Nat} (hw : w = 2 ^ j * (2 * m + 1)) (hlt : w < W64) : tzF w = j := by
  obtain ⟨hj, he⟩ := low_eq hw hlt
  have h0 : w ≠ 0 := by rw [hw]; exact Nat.pos_iff_ne_zero.1 (Nat.mul_pos (Nat.pow_pos (by decide)) (by omega))
  unfold tzF; rw [if_neg h0]; unfold tzI; rw [he]; exact tab_low ⟨j, hj⟩
theorem clear_eq {w j m : Nat} (hw : w = 2 ^ j * (2 * m + 1)) (hlt : w < W64) : and64 w (sub64 w 1) = 2 ^ (j + 1) * m := by
  have h0 : w ≠ 0 := by rw [hw]; exact Nat.pos_iff_ne_zero.1 (Nat.mul_pos (Nat.pow_pos (by decide)) (by omega))
  rw [sub_one h0 hlt]; unfold and64
  rw [Nat.mod_eq_of_lt hlt, Nat.mod_eq_of_lt (by omega), hw, and_pred]
def bitsL (w : Nat) : List Nat := (List.range 64).filter w.testBit
theorem range_cut {j n : Nat} (h : j < n) : List.range n = List.range j ++ j :: (List.range (n - j - 1)).map (j + 1 + ·) := by
  have e : List.range n = List.range (j + (1 + (n - j - 1))) := by congr 1; omega
  rw [e, List.range_add, List.range_add]; simp
  intro a _; omega
theorem bits_step {w j m : Nat} (hw : w = 2 ^ j * (2 * m + 1)) (hj : j < 64) : bitsL w = j :: bitsL (2 ^ (j + 1) * m) := by
  unfold bitsL
  rw [range_cut hj, List.filter_append, List.filter_append, List.filter_cons, List.filter_cons, hw, bit_hi, bit_lo, if_neg (Nat.lt_irrefl j), if_pos rfl, if_pos rfl, if_pos (Nat.lt_succ_self j), if_neg (by simp)]
  have h1 : (List.range j).filter (2 ^ j * (2 * m + 1)).testBit = [] := by
    rw [List.filter_eq_nil_iff]; intro a ha
    rw [bit_hi, if_pos (List.mem_range.1 ha)]; simp
  have h2 : (List.range j).filter (2 ^ (j + 1) * m).testBit = [] := by
    rw [List.filter_eq_nil_iff]; intro a ha
    have := List.mem_range.1 ha
    rw [bit_lo, if_pos (by omega)]; simp
  rw [h1, h2, List.nil_append, List.nil_append]
  congr 1
  apply List.filter_congr
  intro a ha
  obtain ⟨b, _, rfl⟩ := List.mem_map.1 ha
  rw [bit_hi, bit_lo, if_neg (by omega), if_neg (by omega), if_neg (by omega)]
theorem bits_zero : bitsL 0 = [] := by unfold bitsL; rw [List.filter_eq_nil_iff]; intro a _; simp
theorem memF_bits (i : Nat) : ∀ (f w : Nat), w ≤ f → w < W64 → memF i f w = (bitsL w).map fun j => UInt8.ofNat (64 * i + j)
  | 0, w, h, _ => by obtain rfl : w = 0 := by omega
                     rw [bits_zero]; rfl
  | f + 1, w, h, hlt => by
    rw [memF]
    by_cases h0 : w = 0
    · subst h0; rw [if_pos rfl, bits_zero]; rfl
    · obtain ⟨j, m, hw⟩ := split_low w h0
      have hj := (low_eq hw hlt).1
      have hp : 0 < 2 ^ j := Nat.pow_pos (by decide)
      have hle : 2 ^ (j + 1) * m < w := by
        rw [hw, Nat.pow_succ, Nat.mul_add, Nat.mul_one, Nat.mul_assoc]; omega
      rw [if_neg h0, tz_low hw hlt, clear_eq hw hlt, memF_bits i f _ (by omega) (by omega), bits_step hw hj]; rfl
theorem range_four : List.range 256 = List.range 64 ++ ((List.range 64).map (64 + ·) ++ ((List.range 64).map (128 + ·) ++ (List.range 64).map (192 + ·))) := by decide +kernel
theorem word_memb {c : List Nat} {i w : Nat} (hi : i < 4) (hc : c.getD i 0 = w) (hw : w < W64) : (((List.range 64).map (64 * i + ·)).map UInt8.ofNat).filter (hasF c) = (bitsL w).map fun j => UInt8.ofNat (64 * i + j) := by
  unfold bitsL
  rw [List.map_map, List.filter_map]
  congr 1
  apply List.filter_congr
  intro a ha
  have ha := List.mem_range.1 ha
  show hasF c (UInt8.ofNat (64 * i + a)) = w.testBit a
  have e : (UInt8.ofNat (64 * i + a)).toNat = 64 * i + a := by rw [UInt8.toNat_ofNat']; omega
  rw [has_testBit, e, show (64 * i + a) / 64 = i by omega, show (64 * i + a) % 64 = a by omega, hc, Nat.mod_eq_of_lt hw]
theorem bytes_memb {c : List Nat} (hc : ClsOk c) : bytesF c = membF c := by
  obtain ⟨a, b, d, e, rfl⟩ := four_of hc.1
  have hw := hc.2
  unfold bytesF membF
  rw [range_four, List.map_append, List.map_append, List.map_append, List.filter_append, List.filter_append, List.filter_append]
  have h0 := word_memb (c := [a, b, d, e]) (i := 0) (w := a) (by decide) rfl (hw a (by simp))
  have h1 := word_memb (c := [a, b, d, e]) (i := 1) (w := b) (by decide) rfl (hw b (by simp))
  have h2 := word_memb (c := [a, b, d, e]) (i := 2) (w := d) (by decide) rfl (hw d (by simp))
  have h3 := word_memb (c := [a, b, d, e]) (i := 3) (w := e) (by decide) rfl (hw e (by simp))
  have hz : (List.range 64).map (64 * 0 + ·) = List.range 64 := by simp
  rw [hz] at h0
  rw [h0]
  rw [show (List.range 64).map (64 + ·) = (List.range 64).map (64 * 1 + ·) from rfl, h1, show (List.range 64).map (128 + ·) = (List.range 64).map (64 * 2 + ·) from rfl, h2, show (List.range 64).map (192 + ·) = (List.range 64).map (64 * 3 + ·) from rfl, h3]
  show memF 0 a a ++ (memF 1 b b ++ (memF 2 d d ++ (memF 3 e e ++ []))) = _
  rw [memF_bits 0 a a (Nat.le_refl _) (hw a (by simp)), memF_bits 1 b b (Nat.le_refl _) (hw b (by simp)), memF_bits 2 d d (Nat.le_refl _) (hw d (by simp)), memF_bits 3 e e (Nat.le_refl _) (hw e (by simp)), List.append_nil]

/-! ### the text of an expression is its tree's -/
theorem kind_rank {n : NodeV} {a b : Rg} (hk : 1 ≤ n.kind ∧ n.kind ≤ 8) : rank (mkT n a b) = if n.kind = 5 then 0 else if n.kind = 6 then 1 else if n.kind = 4 then 2 else if n.kind = 7 then 3 else 4 := by
  unfold mkT
  by_cases h1 : n.kind = 1
  · rw [if_pos h1, h1]; rfl
  rw [if_neg h1]
  by_cases h2 : n.kind = 2
  · rw [if_pos h2, h2]; rfl
  rw [if_neg h2]
  by_cases h3 : n.kind = 3
  · rw [if_pos h3, h3]; rfl
  rw [if_neg h3]
  by_cases h4 : n.kind = 4
  · rw [if_pos h4, h4]; rfl
  rw [if_neg h4]
  by_cases h5 : n.kind = 5
  · rw [if_pos h5, h5]; rfl
  rw [if_neg h5]
  by_cases h6 : n.kind = 6
  · rw [if_pos h6, h6]; rfl
  rw [if_neg h6]
  by_cases h7 : n.kind = 7
  · rw [if_pos h7, h7]; rfl
  rw [if_neg h7, if_neg h5, if_neg h6, if_neg h4, if_neg h7]; rfl
/-- The kinds that bind less tightly than k. -/
def lessK : Nat → List Int
  | 1 => [5]
  | 2 => [5, 6]
  | 3 => [4, 5, 6]
  | _ => [4, 5, 6, 7]
theorem wrap_par {l : List NodeV} {T : List (List UInt8)} {i : Nat} (he : errF 0 l = 0) (hi : i < l.length) (hT : T.getD i [] = txt (treeA l i)) {k : Nat} (hk : 1 ≤ k ∧ k ≤ 4) : wrapF l T (lessK k) i = par k (rank (treeA l i)) (txt (treeA l i)) := by
  have hne := err_at (l := l) 0 he i hi (Nat.zero_le _)
  have hkd := nodeE_kind hne
  unfold wrapF par
  rw [hT, kindAt_get hi, treeA_eq he hi, kind_rank hkd]
  have hc : (lessK k).contains l[i].kind = true ↔ (if l[i].kind = 5 then 0 else if l[i].kind = 6 then 1 else if l[i].kind = 4 then 2 else if l[i].kind = 7 then 3 else 4) < k := by
    obtain ⟨kd, hkd2⟩ : ∃ kd, kd = l[i].kind := ⟨_, rfl⟩
    rw [← hkd2]
    rcases (by omega : k = 1 ∨ k = 2 ∨ k = 3 ∨ k = 4) with rfl | rfl | rfl | rfl
    all_goals (simp only [lessK, List.contains_cons, List.contains_nil, Bool.or_false, Bool.or_eq_true, beq_iff_eq]; repeat' split)
    all_goals omega
  by_cases h : (lessK k).contains l[i].kind = true
  · rw [if_pos h, if_pos (hc.1 h)]
  · rw [if_neg h, if_neg (fun h' => h (hc.2 h'))]
theorem texts_txt {l : List NodeV} (he : errF 0 l = 0) (hcls : ∀ n ∈ l, ClsOk n.c) : ∀ m, m ≤ l.length → ∀ i, i < m → (textsF l m).getD i [] = txt (treeA l i)
  | 0, _, i, hi => absurd hi (Nat.not_lt_zero i)
  | m + 1, hm, i, hi => by
    have hml : m < l.length := by omega
    have ih := texts_txt he hcls m (by omega)
    have hlen := textsF_len l m (by omega)
    rw [textsF_succ l m hml]
    by_cases h : i < m
    · rw [List.getD_eq_getElem?_getD, List.getElem?_append_left (by omega), ← List.getD_eq_getElem?_getD]; exact ih i h
    · obtain rfl : i = m := by omega
      rw [List.getD_eq_getElem?_getD, List.getElem?_append_right (by omega), hlen, Nat.sub_self]
      show nodeT l (textsF l i) l[i] = txt (treeA l i)
      have hne := err_at (l := l) 0 he i hml (Nat.zero_le _)
      have hop := nodeE_ops hne
      have hk := nodeE_kind hne
      rw [treeA_eq he hml]
      have hl1 : 0 < arF l[i].kind → l[i].l.toNat < i := fun ha => by have := ops_l hop ha; omega
      have hr1 : 1 < arF l[i].kind → l[i].r.toNat < i := fun ha => by have := ops_r hop ha; omega
      unfold nodeT mkT
      by_cases h1 : l[i].kind = 1
      · rw [if_pos h1, if_pos h1]; rfl
      rw [if_neg h1, if_neg h1]
      by_cases h2 : l[i].kind = 2
      · rw [if_pos h2, if_pos h2]; rfl
      rw [if_neg h2, if_neg h2]
      by_cases h3 : l[i].kind = 3
      · rw [if_pos h3, if_pos h3, bytes_memb (hcls _ (List.getElem_mem hml))]; rfl
      rw [if_neg h3, if_neg h3]
      by_cases h4 : l[i].kind = 4
      · have hl2 := hl1 (by rw [arF_2 (.inl h4)]; decide); have hr2 := hr1 (by rw [arF_2 (.inl h4)]; decide)
        rw [if_pos h4, if_pos h4]
        exact congr (congrArg _ (wrap_par he (by omega) (ih _ hl2) (k := 2) (by decide))) (wrap_par he (by omega) (ih _ hr2) (k := 3) (by decide))
      rw [if_neg h4, if_neg h4]
      by_cases h5 : l[i].kind = 5
      · have hl2 := hl1 (by rw [arF_2 (.inr (.inl h5))]; decide); have hr2 := hr1 (by rw [arF_2 (.inr (.inl h5))]; decide)
        have hw := wrap_par he (by omega) (ih _ hr2) (k := 1) (by decide)
        rw [if_pos h5, if_pos h5, ih _ hl2]
        rw [show wrapF l (textsF l i) [5] l[i].r.toNat = _ from hw]
        simp [txt]
      rw [if_neg h5, if_neg h5]
      by_cases h6 : l[i].kind = 6
      · have hl2 := hl1 (by rw [arF_2 (.inr (.inr h6))]; decide); have hr2 := hr1 (by rw [arF_2 (.inr (.inr h6))]; decide)
        rw [if_pos h6, if_pos h6, show wrapF l (textsF l i) [5] l[i].l.toNat = _ from wrap_par he (by omega) (ih _ hl2) (k := 1) (by decide), show wrapF l (textsF l i) [5, 6] l[i].r.toNat = _ from wrap_par he (by omega) (ih _ hr2) (k := 2) (by decide)]
        simp [txt]
      rw [if_neg h6, if_neg h6]
      by_cases h7 : l[i].kind = 7
      · have hl2 := hl1 (by rw [arF_1 (.inl h7)]; decide)
        rw [if_pos h7, if_pos h7, show wrapF l (textsF l i) [4, 5, 6] l[i].l.toNat = _ from wrap_par he (by omega) (ih _ hl2) (k := 3) (by decide)]
        simp [txt]
      · have hl2 := hl1 (by rw [arF_1 (.inr (by omega))]; decide)
        rw [if_neg h7, if_neg h7, show wrapF l (textsF l i) [4, 5, 6, 7] l[i].l.toNat = _ from wrap_par he (by omega) (ih _ hl2) (k := 4) (by decide)]
        simp [txt]
theorem format_tree {l : List NodeV} (hv : validF l = 0) (hcls : ∀ n ∈ l, ClsOk n.c) : formatF l = if 4000 < (txt (treeA l (l.length - 1))).length then ([], 2) else (txt (treeA l (l.length - 1)), 0) := by
  obtain ⟨_, h0, he, _⟩ := ones_of hv
  unfold formatF
  rw [if_pos hv, texts_txt he hcls l.length (Nat.le_refl _) _ (by omega)]
end Go.Proofs.YtkmgbcjfidpmgaaGreatDoor
