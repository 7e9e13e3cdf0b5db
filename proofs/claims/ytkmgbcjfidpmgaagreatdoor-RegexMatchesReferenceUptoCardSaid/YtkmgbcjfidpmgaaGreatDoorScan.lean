/- Package regex: the members of a set from a number on, and what the reference's scan of them finds. -/
import Derived.Test.YtkmgbcjfidpmgaaGreatDoorBits
namespace Go.Proofs.YtkmgbcjfidpmgaaGreatDoor
open Go Go.Ex

def sfx (c : List Nat) (lo : Nat) : List UInt8 := (((List.range 256).drop lo).map UInt8.ofNat).filter (hasF c)
theorem sfx_zero (c : List Nat) : sfx c 0 = membF c := by unfold sfx membF; rw [List.drop_zero]
theorem sfx_end (c : List Nat) {lo : Nat} (h : 256 ≤ lo) : sfx c lo = [] := by unfold sfx; rw [List.drop_eq_nil_of_le (by rw [List.length_range]; exact h)]; rfl
theorem sfx_in {c : List Nat} {lo : Nat} (h : lo < 256) (hm : hasF c (UInt8.ofNat lo) = true) : sfx c lo = UInt8.ofNat lo :: sfx c (lo + 1) := by
  unfold sfx; rw [List.drop_eq_getElem_cons (by rw [List.length_range]; exact h), List.getElem_range, List.map_cons, List.filter_cons, if_pos hm]
theorem sfx_out {c : List Nat} {lo : Nat} (h : lo < 256) (hm : hasF c (UInt8.ofNat lo) = false) : sfx c lo = sfx c (lo + 1) := by
  unfold sfx; rw [List.drop_eq_getElem_cons (by rw [List.length_range]; exact h), List.getElem_range, List.map_cons, List.filter_cons, if_neg (by rw [hm]; simp)]
theorem sfx_ge {c : List Nat} {lo : Nat} {x : UInt8} (h : x ∈ sfx c lo) : lo ≤ x.toNat := by
  unfold sfx at h
  obtain ⟨k, hk, rfl⟩ := List.mem_map.1 (List.mem_filter.1 h).1
  obtain ⟨i, hi, rfl⟩ := List.mem_iff_getElem.1 hk
  rw [List.getElem_drop, List.getElem_range, UInt8.toNat_ofNat']
  rw [List.length_drop, List.length_range] at hi
  omega
theorem sfx_sub {c : List Nat} {lo : Nat} {x : UInt8} (h : x ∈ sfx c lo) : x ∈ membF c := by
  unfold sfx at h; unfold membF
  obtain ⟨h1, h2⟩ := List.mem_filter.1 h
  refine List.mem_filter.2 ⟨?_, h2⟩
  obtain ⟨k, hk, rfl⟩ := List.mem_map.1 h1
  exact List.mem_map.2 ⟨k, List.mem_of_mem_drop hk, rfl⟩
theorem sfx_len (c : List Nat) (lo : Nat) : (sfx c lo).length ≤ 256 - lo := by
  unfold sfx
  have := List.length_filter_le (hasF c) (((List.range 256).drop lo).map UInt8.ofNat)
  rw [List.length_map, List.length_drop, List.length_range] at this
  exact this
theorem u8_next {lo : Nat} (h : lo + 1 < 256) : UInt8.ofNat (lo + 1) = UInt8.ofNat lo + 1 := by
  apply UInt8.toNat_inj.1; rw [UInt8.toNat_add, UInt8.toNat_ofNat', UInt8.toNat_ofNat']; show _ = (_ + 1) % 256; omega
/-- A run of members. -/
theorem run_sfx {c : List Nat} : ∀ (d lo : Nat), lo + d < 256 → (∀ i, i ≤ d → hasF c (UInt8.ofNat (lo + i)) = true) → (lo + d = 255 ∨ hasF c (UInt8.ofNat (lo + d + 1)) = false) →
    runF (UInt8.ofNat lo) (sfx c (lo + 1)) = d ∧ (sfx c lo).drop (d + 1) = sfx c (lo + d + 1) ∧ (sfx c lo).getD d 0 = UInt8.ofNat (lo + d)
  | 0, lo, h, hm, he => by
    have h0 := sfx_in (c := c) (lo := lo) (by omega) (hm 0 (Nat.le_refl _))
    refine ⟨?_, by rw [h0]; rfl, by rw [h0]; rfl⟩
    rcases he with he | he
    · rw [sfx_end c (by omega)]; rfl
    · rcases Nat.lt_or_ge (lo + 1) 256 with h1 | h1
      · rw [sfx_out h1 he]
        cases hs : sfx c (lo + 1 + 1) with
        | nil => rfl
        | cons y t =>
          have hy := sfx_ge (c := c) (lo := lo + 1 + 1) (x := y) (by rw [hs]; simp)
          rw [runF, if_neg (fun e => by rw [e, ← u8_next (by omega), UInt8.toNat_ofNat'] at hy; omega)]
      · rw [sfx_end c h1]; rfl
  | d + 1, lo, h, hm, he => by
    have h0 := sfx_in (c := c) (lo := lo) (by omega) (hm 0 (by omega))
    have h1 := sfx_in (c := c) (lo := lo + 1) (by omega) (hm 1 (by omega))
    obtain ⟨i1, i2, i3⟩ := run_sfx d (lo + 1) (by omega) (fun i hi => by have := hm (i + 1) (by omega); rwa [show lo + 1 + i = lo + (i + 1) by omega]) (by rw [show lo + 1 + d = lo + (d + 1) by omega]; exact he)
    refine ⟨by rw [h1, runF, if_pos (u8_next (by omega)), i1], ?_, ?_⟩
    · rw [h0, List.drop_succ_cons, i2, show lo + 1 + d + 1 = lo + (d + 1) + 1 by omega]
    · rw [h0, List.getD_cons_succ, i3, show lo + 1 + d = lo + (d + 1) by omega]
/-- The scan writes the run and goes on behind it. -/
theorem scan_go {c : List Nat} {lo hi f : Nat} (h : lo ≤ hi) (h2 : hi < 256) (hm : ∀ i, lo ≤ i → i ≤ hi → hasF c (UInt8.ofNat i) = true) (he : hi = 255 ∨ hasF c (UInt8.ofNat (hi + 1)) = false) :
    runsT (f + 1) (sfx c lo) = charT (UInt8.ofNat lo) ++ ((if lo + 1 < hi then [45] else []) ++ ((if lo < hi then charT (UInt8.ofNat hi) else []) ++ runsT f (sfx c (hi + 1)))) ∧ (sfx c lo).length = (hi - lo + 1) + (sfx c (hi + 1)).length ∧ UInt8.ofNat lo ∈ membF c := by
  obtain ⟨d, rfl⟩ : ∃ d, hi = lo + d := ⟨hi - lo, by omega⟩
  obtain ⟨r1, r2, r3⟩ := run_sfx (c := c) d lo h2 (fun i hi => hm _ (by omega) (by omega)) (he)
  have h0 := sfx_in (c := c) (lo := lo) (by omega) (hm lo (Nat.le_refl _) (by omega))
  have hr2 := r2
  rw [h0, List.drop_succ_cons] at r2
  rw [h0] at r3
  have hd := run_lt (sfx c (lo + 1)) (UInt8.ofNat lo)
  rw [r1] at hd
  refine ⟨?_, ?_, sfx_sub (lo := lo) (by rw [h0]; simp)⟩
  · rw [h0, runsT, r1, r2, r3]
    simp only [show (2 < d + 1) = (lo + 1 < lo + d) from propext (by omega), show (1 < d + 1) = (lo < lo + d) from propext (by omega)]
  · rw [← hr2, List.length_drop, h0, List.length_cons]; omega
def fullC : List Nat := [18446744073709551615, 18446744073709551615, 18446744073709551615, 18446744073709551615]
theorem all_memb : membF fullC = (List.range 256).map UInt8.ofNat := by decide +kernel
theorem memb_all {c : List Nat} (hc : ClsOk c) (h : (membF c).length = 256) : c = fullC := by
  have hall : ClsOk fullC := ⟨rfl, by decide⟩
  refine cls_ext hc hall (fun x => ?_)
  have h1 : ∀ a ∈ (List.range 256).map UInt8.ofNat, hasF c a = true := List.length_filter_eq_length_iff.1 (by unfold membF at h; rw [h, List.length_map, List.length_range])
  have h2 : ∀ a ∈ (List.range 256).map UInt8.ofNat, hasF fullC a = true := List.length_filter_eq_length_iff.1 (by have := congrArg List.length all_memb; unfold membF at this; exact this)
  have hx : x ∈ (List.range 256).map UInt8.ofNat := List.mem_map.2 ⟨x.toNat, List.mem_range.2 x.toNat_lt, by simp⟩
  rw [h1 x hx, h2 x hx]
theorem classT_all : classT (membF fullC) = [46] := by
  have h := congrArg List.length all_memb
  rw [List.length_map, List.length_range] at h
  unfold classT; rw [if_neg (by omega), if_pos h]
theorem classT_one {c : List Nat} {x : UInt8} (h : (membF c).length = 1) (hx : x ∈ membF c) : classT (membF c) = charT x := by
  unfold classT; rw [if_pos h]
  obtain ⟨y, hy⟩ := List.length_eq_one_iff.1 h
  rw [hy] at hx ⊢; rw [List.mem_singleton.1 hx]; rfl
theorem classT_many {c : List Nat} (h1 : ¬ (membF c).length = 1) (h2 : ¬ (membF c).length = 256) : classT (membF c) = 91 :: (runsT (membF c).length (membF c) ++ [93]) := by
  unfold classT; rw [if_neg h1, if_neg h2]
theorem less_iff {kd : Int} {k : Nat} (hk : 1 ≤ k ∧ k ≤ 4) : (lessK k).contains kd = true ↔ (if kd = 5 then 0 else if kd = 6 then 1 else if kd = 4 then 2 else if kd = 7 then 3 else 4) < k := by
  rcases (by omega : k = 1 ∨ k = 2 ∨ k = 3 ∨ k = 4) with rfl | rfl | rfl | rfl
  all_goals (simp only [lessK, List.contains_cons, List.contains_nil, Bool.or_false, Bool.or_eq_true, beq_iff_eq]; repeat' split)
  all_goals omega
end Go.Proofs.YtkmgbcjfidpmgaaGreatDoor
