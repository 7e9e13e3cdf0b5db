/- Package rewrite: what its reference computes, step by step, in plain words. -/
import Derived.Test.YtffbfibpfnlfeaaGreatDoorPlain
namespace Go.Proofs.YtffbfibpfnlfeaaGreatDoor
open Go Go.Ex

/-! ### members of a set of bytes -/
theorem bit_and {w s : Nat} (hs : s < 64) : and64 (w / 2 ^ s) 1 = 1 ↔ and64 w (2 ^ s) ≠ 0 := by
  have h1 : and64 (w / 2 ^ s) 1 = w / 2 ^ s % 2 := by
    unfold and64
    rw [show 1 % W64 = 1 by decide, Nat.and_one_is_mod, Nat.mod_mod_of_dvd _ (by decide)]
  have hlt : 2 ^ s < W64 := Nat.pow_lt_pow_right (by decide) hs
  have h2 : and64 w (2 ^ s) = w % 2 ^ 64 &&& 2 ^ s := by unfold and64; rw [Nat.mod_eq_of_lt hlt]
  have h3 : (w % 2 ^ 64 &&& 2 ^ s).testBit s = decide (w / 2 ^ s % 2 = 1) := by
    rw [Nat.testBit_and, Nat.testBit_mod_two_pow, Nat.testBit_two_pow_self, Nat.testBit_eq_decide_div_mod_eq]; simp [hs]
  rw [h1, h2]
  constructor
  · intro h hz
    rw [hz, Nat.zero_testBit, h] at h3; simp at h3
  · intro hne
    obtain ⟨i, hi⟩ := Nat.exists_testBit_of_ne_zero hne
    have hi2 := hi
    rw [Nat.testBit_and, Nat.testBit_two_pow, Bool.and_eq_true, decide_eq_true_eq] at hi2
    obtain rfl := hi2.2
    rw [hi] at h3
    exact of_decide_eq_true h3.symm
theorem has_iff2 (c : List Nat) (x : UInt8) : cmpP .eql ((and64 (c.getD (x.toNat / 64) 0 / 2 ^ (x.toNat % 64)) 1 : Nat) : Int) 1 ↔ hasF c x = true := by
  unfold hasF; rw [decide_eq_true_iff, ← bit_and (Nat.mod_lt _ (by decide))]; show _ = _ ↔ _; omega

/-! ### hex digits as numbers -/
def digV (x : UInt8) : Int := match hexF x with | some y => (y.toNat : Int) | none => -1
theorem dig_all : ∀ x : UInt8, digV x = if 48 ≤ x.toNat ∧ x.toNat ≤ 57 then (x.toNat : Int) - 48 else if 97 ≤ x.toNat ∧ x.toNat ≤ 102 then (x.toNat : Int) - 87 else if 65 ≤ x.toNat ∧ x.toNat ≤ 70 then (x.toNat : Int) - 55 else -1 := u8_all (by decide +kernel)
theorem dig_le (x : UInt8) : -1 ≤ digV x ∧ digV x ≤ 15 := by
  rw [dig_all]; repeat' split
  all_goals omega
theorem dig_some {x : UInt8} (h : 0 ≤ digV x) : (hexF x).isSome = true ∧ digV x = (((hexF x).getD 0).toNat : Int) := by
  unfold digV at *
  cases hx : hexF x with
  | none => rw [hx] at h; exact absurd h (by decide)
  | some y => exact ⟨rfl, rfl⟩
theorem dig_none {x : UInt8} (h : ¬ 0 ≤ digV x) : hexF x = none := by
  unfold digV at *
  cases hx : hexF x with
  | none => rfl
  | some y => rw [hx] at h; exact absurd (Int.natCast_nonneg y.toNat) h
theorem dig_join {x y : UInt8} (hx : 0 ≤ digV x) (hy : 0 ≤ digV y) : IntKind.u8.wrap (16 * digV x + digV y) = ((16 * (hexF x).getD 0 + (hexF y).getD 0).toNat : Int) := by
  have h1 := dig_le x
  have h2 := dig_le y
  rw [(dig_some hx).2] at *; rw [(dig_some hy).2] at *
  rw [IntKind.wrap_u8, UInt8.toNat_add, UInt8.toNat_mul, show (16 : UInt8).toNat = 16 from rfl]
  omega

/-! ### an occurrence at an index -/
theorem at_no {old b : List UInt8} {i k : Nat} (hk : k < old.length) (hi : i + k < b.length) (h : ¬ b[i + k] = old[k]) : old.isPrefixOf (b.drop i) = false := by
  rw [Bool.eq_false_iff]; intro h2
  obtain ⟨r, hr⟩ := List.isPrefixOf_iff_prefix.1 h2
  apply h
  have e1 : (b.drop i)[k]? = some (b[i + k]) := by rw [List.getElem?_drop, List.getElem?_eq_getElem hi]
  rw [← hr, List.getElem?_append_left hk, List.getElem?_eq_getElem hk] at e1
  exact (Option.some.inj e1).symm
theorem at_short {old b : List UInt8} {i : Nat} (h : b.length < i + old.length) (hi : i ≤ b.length) : old.isPrefixOf (b.drop i) = false := by
  rw [Bool.eq_false_iff]; intro h2
  have := (List.isPrefixOf_iff_prefix.1 h2).length_le
  rw [List.length_drop] at this; omega
theorem at_len {old b : List UInt8} {i : Nat} (h : old.isPrefixOf (b.drop i) = true) (hi : i ≤ b.length) : i + old.length ≤ b.length := by
  have := (List.isPrefixOf_iff_prefix.1 h).length_le
  rw [List.length_drop] at this; omega
theorem at_step {old b : List UInt8} {i k : Nat} (hk : k < old.length) (hi : i + k < b.length) (h : (b.drop i).take k = old.take k) (h2 : b[i + k] = old[k]) : (b.drop i).take (k + 1) = old.take (k + 1) := by
  rw [List.take_add_one, List.take_add_one, h, List.getElem?_drop, List.getElem?_eq_getElem hi, List.getElem?_eq_getElem hk, h2]
theorem at_yes {old b : List UInt8} {i : Nat} (h : (b.drop i).take old.length = old.take old.length) : old.isPrefixOf (b.drop i) = true := by
  rw [List.isPrefixOf_iff_prefix, List.prefix_iff_eq_take, h, List.take_length]
theorem in_no {l : List UInt8} {x : UInt8} {k : Nat} (hk : k < l.length) (h : (l.take k).contains x = false) (h2 : ¬ l[k] = x) : (l.take (k + 1)).contains x = false := by
  rw [List.take_add_one, List.getElem?_eq_getElem hk, List.contains_append, h]
  simp [Ne.symm h2]
theorem in_yes {l : List UInt8} {x : UInt8} {k : Nat} (hk : k < l.length) (h2 : l[k] = x) : l.contains x = true := by
  rw [List.contains_iff_mem, ← h2]; exact List.getElem_mem hk

/-! ### percent sequences, by index -/
theorem dropc {b : List UInt8} {i : Nat} (h : i < b.length) : b.drop i = b[i] :: b.drop (i + 1) := List.drop_eq_getElem_cons h
theorem p_other {lax : Bool} {b : List UInt8} {i : Nat} (h : i < b.length) (ha : ¬ (b[i].toNat : Int) = 37) : percF lax 0 (b.drop i) = (percF lax 0 (b.drop (i + 1))).map (b[i] :: ·) := by
  rw [dropc h, perc_other ha]
theorem p_pair {lax : Bool} {b : List UInt8} {i : Nat} (h : i + 2 < b.length) (ha : (b[i].toNat : Int) = 37) (h1 : 0 ≤ digV b[i + 1]) (h2 : 0 ≤ digV b[i + 2]) :
    percF lax 0 (b.drop i) = (percF lax 0 (b.drop (i + 2 + 1))).map ((16 * (hexF b[i + 1]).getD 0 + (hexF b[i + 2]).getD 0) :: ·) := by
  rw [dropc (show i < b.length by omega), dropc (show i + 1 < b.length by omega), dropc (show i + 1 + 1 < b.length by omega)]
  rw [perc_pair ha (dig_some h1).1 (dig_some h2).1]
theorem p_none {b : List UInt8} {i : Nat} (h : i < b.length) (hn : ¬ (∃ h2 : i + 2 < b.length, 0 ≤ digV b[i + 1] ∧ 0 ≤ digV b[i + 2])) : pairF (b.drop (i + 1)) = none := by
  by_cases h2 : i + 2 < b.length
  · rw [dropc (show i + 1 < b.length by omega), dropc (show i + 1 + 1 < b.length by omega)]
    by_cases h3 : 0 ≤ digV b[i + 1]
    · exact pairF_2 (by rw [dig_none (fun h4 => hn ⟨h2, h3, h4⟩)]; rfl)
    · exact pairF_1 (by rw [dig_none h3]; rfl)
  · exact pairF_short (by rw [List.length_drop]; omega)
theorem p_lax {b : List UInt8} {i : Nat} (h : i < b.length) (ha : (b[i].toNat : Int) = 37) (hn : ¬ (∃ h2 : i + 2 < b.length, 0 ≤ digV b[i + 1] ∧ 0 ≤ digV b[i + 2])) : percF true 0 (b.drop i) = (percF true 0 (b.drop (i + 1))).map (b[i] :: ·) := by
  rw [dropc h, perc_none_t ha (p_none h hn)]
theorem p_strict {b : List UInt8} {i : Nat} (h : i < b.length) (ha : (b[i].toNat : Int) = 37) (hn : ¬ (∃ h2 : i + 2 < b.length, 0 ≤ digV b[i + 1] ∧ 0 ≤ digV b[i + 2])) : percF false 0 (b.drop i) = none := by
  rw [dropc h, perc_none_f ha (p_none h hn)]
theorem p_step {lax : Bool} {b rest rest' out : List UInt8} {y : UInt8} (hp : percF lax 0 b = (percF lax 0 rest).map (out ++ ·)) (h : percF lax 0 rest = (percF lax 0 rest').map (y :: ·)) : percF lax 0 b = (percF lax 0 rest').map ((out ++ [y]) ++ ·) := by
  rw [hp, h, Option.map_map]; congr 1; funext z; simp

/-! ### replacement, by index -/
theorem r_hit {old new b : List UInt8} {i m : Nat} (hi : i < b.length) (hm : 0 < m) (hp : old.isPrefixOf (b.drop i) = true) (ho : 0 < old.length) : repF old new m 0 (b.drop i) = new ++ repF old new (m - 1) 0 (b.drop (i + old.length)) := by
  rw [dropc hi] at hp ⊢
  rw [repF, if_pos ⟨hm, hp⟩, repF_skip, List.drop_drop, show i + 1 + (old.length - 1) = i + old.length by omega]
theorem r_miss {old new b : List UInt8} {i m : Nat} (hi : i < b.length) (hp : ¬ (0 < m ∧ old.isPrefixOf (b.drop i) = true)) : repF old new m 0 (b.drop i) = b[i] :: repF old new m 0 (b.drop (i + 1)) := by
  rw [dropc hi] at hp ⊢
  rw [repF, if_neg hp]
theorem sqF_len (c : UInt8) : ∀ (p : Bool) (l : List UInt8), (sqF c p l).length ≤ l.length
  | _, [] => by simp [sqF]
  | p, x :: t => by
    have h1 := sqF_len c true t
    have h2 := sqF_len c false t
    rw [sqF]; repeat' split
    all_goals (simp only [List.length_cons]; omega)
theorem takec (b : List UInt8) (k : Nat) (h : k < b.length) : b.take (k + 1) = b.take k ++ [b[k]] := by rw [List.take_add_one, List.getElem?_eq_getElem h]; rfl
theorem low_take (b : List UInt8) (k : Nat) (h : k < b.length) : (b.take (k + 1)).map lowerF = (b.take k).map lowerF ++ [lowerF b[k]] := by rw [takec b k h, List.map_append]; rfl
theorem up_take (b : List UInt8) (k : Nat) (h : k < b.length) : (b.take (k + 1)).map upperF = (b.take k).map upperF ++ [upperF b[k]] := by rw [takec b k h, List.map_append]; rfl
theorem drop_take_t (old b : List UInt8) (k : Nat) (h : k < b.length) (hc : old.contains b[k] = true) : ((b.take (k + 1)).filter fun x => !old.contains x) = (b.take k).filter fun x => !old.contains x := by
  rw [takec b k h, List.filter_append, List.filter_cons_of_neg (by simpa using hc)]; simp
theorem drop_take_f (old b : List UInt8) (k : Nat) (h : k < b.length) (hc : old.contains b[k] = false) : ((b.take (k + 1)).filter fun x => !old.contains x) = ((b.take k).filter fun x => !old.contains x) ++ [b[k]] := by
  rw [takec b k h, List.filter_append, List.filter_cons_of_pos (by simpa using hc)]; rfl
theorem sq_take_t (c : UInt8) (b : List UInt8) (k : Nat) (h : k < b.length) (h0 : 0 < k) (h1 : b[k] = c) (h2 : b[k - 1] = b[k]) : sqF c false (b.take (k + 1)) = sqF c false (b.take k) := by
  have hne : b.take k ≠ [] := fun he => by have := congrArg List.length he; rw [List.length_take, List.length_nil] at this; omega
  rw [takec b k h, sqF_snoc, if_pos ⟨h1, by
    rw [if_neg hne, List.getLast?_eq_getElem?, List.length_take, List.getElem?_take_of_lt (by omega), show min k b.length - 1 = k - 1 by omega, List.getElem?_eq_getElem (by omega), h2, h1]⟩, List.append_nil]
theorem sq_take_f (c : UInt8) (b : List UInt8) (k : Nat) (h : k < b.length) (hn : ¬ (0 < k ∧ b[k] = c ∧ b[k - 1] = b[k])) : sqF c false (b.take (k + 1)) = sqF c false (b.take k) ++ [b[k]] := by
  rw [takec b k h, sqF_snoc, if_neg]
  rintro ⟨h1, h2⟩
  by_cases hk : k = 0
  · subst hk; simp at h2
  · have hne : b.take k ≠ [] := fun he => by have := congrArg List.length he; rw [List.length_take, List.length_nil] at this; omega
    rw [if_neg hne, List.getLast?_eq_getElem?, List.length_take, List.getElem?_take_of_lt (by omega), show min k b.length - 1 = k - 1 by omega, List.getElem?_eq_getElem (by omega)] at h2
    exact hn ⟨by omega, h1, by rw [h1]; exact Option.some.inj h2⟩

/-! ### trimming, by index -/
theorem dw_step {p : UInt8 → Bool} {b : List UInt8} {i : Nat} (hi : i < b.length) (h : b.dropWhile p = (b.drop i).dropWhile p) (hp : p b[i] = true) : b.dropWhile p = (b.drop (i + 1)).dropWhile p := by
  rw [h, dropc hi, List.dropWhile_cons_of_pos hp]
theorem dw_stop {p : UInt8 → Bool} {b : List UInt8} {i : Nat} (hi : i < b.length) (h : b.dropWhile p = (b.drop i).dropWhile p) (hp : p b[i] = false) : b.dropWhile p = b.drop i := by
  rw [h, dropc hi, List.dropWhile_cons_of_neg (by simp [hp])]
theorem dw_end {p : UInt8 → Bool} {b : List UInt8} {i : Nat} (hi : b.length ≤ i) (h : b.dropWhile p = (b.drop i).dropWhile p) : b.dropWhile p = b.drop i := by
  rw [h, List.drop_eq_nil_of_le hi]; rfl
def midF (b : List UInt8) (i j : Nat) : List UInt8 := (b.drop i).take (j - i)
theorem mid_len {b : List UInt8} {i j : Nat} (h : i ≤ j) (h2 : j ≤ b.length) : (midF b i j).length = j - i := by unfold midF; rw [List.length_take, List.length_drop]; omega
theorem mid_last {b : List UInt8} {i j : Nat} (h : i < j) (h2 : j ≤ b.length) (h3 : (midF b i j).length - 1 < (midF b i j).length) : (midF b i j)[(midF b i j).length - 1] = b[j - 1] := by
  have hl := mid_len (Nat.le_of_lt h) h2
  unfold midF at *
  rw [List.getElem_take, List.getElem_drop]; congr 1; omega
theorem mid_init {b : List UInt8} {i j : Nat} (h : i < j) (h2 : j ≤ b.length) : ((midF b i j).drop 0).take ((midF b i j).length - 1 - 0) = midF b i (j - 1) := by
  rw [mid_len (Nat.le_of_lt h) h2, List.drop_zero]; unfold midF; rw [List.take_take]; congr 1; omega
theorem mid_all {b : List UInt8} {i : Nat} : b.drop i = midF b i b.length := by unfold midF; rw [List.take_of_length_le (by rw [List.length_drop]; omega)]
theorem tr_step {c : List Nat} {b : List UInt8} {i j : Nat} (h : i < j) (h2 : j ≤ b.length) (ht : trimF c b = ((midF b i j).reverse.dropWhile (hasF c)).reverse) (hp : hasF c b[j - 1] = true) : trimF c b = ((midF b i (j - 1)).reverse.dropWhile (hasF c)).reverse := by
  have hl := mid_len (Nat.le_of_lt h) h2
  rw [ht, trim_2 (by omega) (by rw [mid_last h h2]; exact hp), mid_init h h2]
theorem tr_stop {c : List Nat} {b : List UInt8} {i j : Nat} (h : i < j) (h2 : j ≤ b.length) (ht : trimF c b = ((midF b i j).reverse.dropWhile (hasF c)).reverse) (hp : hasF c b[j - 1] = false) : trimF c b = midF b i j := by
  have hl := mid_len (Nat.le_of_lt h) h2
  rw [ht, trim_3 (by omega) (by rw [mid_last h h2]; exact hp)]
theorem tr_end {c : List Nat} {b : List UInt8} {i j : Nat} (h : j ≤ i) (ht : trimF c b = ((midF b i j).reverse.dropWhile (hasF c)).reverse) : trimF c b = midF b i j := by
  rw [ht, trim_4 (by unfold midF; rw [show j - i = 0 by omega]; simp)]
theorem tr_begin {c : List Nat} {b : List UInt8} {i : Nat} (h : b.dropWhile (hasF c) = b.drop i) : trimF c b = ((midF b i b.length).reverse.dropWhile (hasF c)).reverse := by
  unfold trimF; rw [h, mid_all]

/-! ### a part between members -/
def restF (c : List Nat) (b : List UInt8) (j n : Nat) : Bool := ((b.drop j).take n).all (hasF c)
theorem rest_step {c : List Nat} {b : List UInt8} {j n : Nat} (h : j + n < b.length) : restF c b j (n + 1) = (restF c b j n && hasF c b[j + n]) := by
  unfold restF
  rw [List.take_add_one, List.getElem?_drop, List.getElem?_eq_getElem h, List.all_append]; simp
theorem rest_of {c : List Nat} {b pre t suf : List UInt8} {n : Nat} (h : b = pre ++ (t ++ suf)) (hs : ∀ x ∈ suf, hasF c x = true) : restF c b (pre.length + t.length) n = true := by
  unfold restF
  rw [List.all_eq_true]; intro x hx
  apply hs
  have := List.mem_of_mem_take hx
  rw [h, ← List.append_assoc, List.drop_append_of_le_length (by simp), List.drop_of_length_le (by simp)] at this
  simpa using this
theorem at_pre {b pre t suf : List UInt8} (h : b = pre ++ (t ++ suf)) : t.isPrefixOf (b.drop pre.length) = true := by
  rw [h, List.drop_append_of_le_length (Nat.le_refl _), List.drop_length, List.nil_append, List.isPrefixOf_iff_prefix]
  exact List.prefix_append _ _
theorem pre_mem {b pre t suf : List UInt8} {i : Nat} (h : b = pre ++ (t ++ suf)) (hi : i < pre.length) (hb : i < b.length) : b[i] ∈ pre := by
  subst h; rw [List.getElem_append_left hi]; exact List.getElem_mem hi

/-! ### the laws -/
theorem do5 {F N : List UInt8} (b : List UInt8) (h1 : F ≠ []) (h2 : F.length ≤ 4) (h3 : N.length ≤ 4) : doF ⟨5, F, N⟩ b = some (repF F N 1 0 b) := by
  have hv : validO ⟨5, F, N⟩ = true := validO_t (l := 1) (m := 4) (f := 4) rfl ⟨List.length_pos_iff.2 h1, h2, h3⟩
  unfold doF; rw [if_neg (by simp [hv])]; rfl
theorem do6 {F N : List UInt8} (b : List UInt8) (h1 : F ≠ []) (h2 : F.length ≤ 4) (h3 : N.length ≤ 4) : doF ⟨6, F, N⟩ b = some (repF F N b.length 0 b) := by
  have hv : validO ⟨6, F, N⟩ = true := validO_t (l := 1) (m := 4) (f := 4) rfl ⟨List.length_pos_iff.2 h1, h2, h3⟩
  unfold doF; rw [if_neg (by simp [hv])]; rfl
theorem do7 {F : List UInt8} (b : List UInt8) (h1 : F ≠ []) (h2 : F.length ≤ 8) : doF ⟨7, F, []⟩ b = some (b.filter fun x => !F.contains x) := by
  have hv : validO ⟨7, F, []⟩ = true := validO_t (l := 1) (m := 8) (f := 0) rfl ⟨List.length_pos_iff.2 h1, h2, Nat.le_refl _⟩
  unfold doF; rw [if_neg (by simp [hv])]; rfl
theorem do8 {c : UInt8} (b : List UInt8) : doF ⟨8, [c], []⟩ b = some (sqF c false b) := by
  have hv : validO ⟨8, [c], []⟩ = true := rfl
  unfold doF; rw [if_neg (by simp [hv])]; rfl
theorem made_rep (old new : List UInt8) : ∃ F N, madeO ⟨4, old, new⟩ = ⟨5, F, N⟩ ∧ F ≠ [] ∧ F.length ≤ 4 ∧ N.length ≤ 4 := by
  have hp := oldP old
  refine ⟨_, _, if_pos (.inl rfl), fun h => ?_, by rw [List.length_take]; omega, by rw [List.length_take]; omega⟩
  have := congrArg List.length h
  rw [List.length_take] at this; simp only [List.length_nil] at this; omega
theorem made_drop (old new : List UInt8) : ∃ c F, madeO ⟨6, old, new⟩ = ⟨7, c :: F, []⟩ ∧ F.length ≤ 7 := by
  have hp := oldP old
  have e : madeO ⟨6, old, new⟩ = ⟨7, (if old = [] then [97] else old : List UInt8).take 8, []⟩ := by unfold madeO; rfl
  rw [e]
  cases h : (if old = [] then [97] else old : List UInt8) with
  | nil => rw [h] at hp; cases hp
  | cons c F => exact ⟨c, F.take 7, rfl, by rw [List.length_take]; omega⟩
theorem filter_append_do (o : OpV) (b c : List UInt8) (hv : validO o = true) (hk : o.kind = 1 ∨ o.kind = 2 ∨ o.kind = 7 ∨ o.kind = 3) :
    (doF o b = none → o.kind = 3) ∧ ∀ x y, doF o b = some x → doF o c = some y → doF o (b ++ c) = some (x ++ y) := by
  have hd : ∀ b, doF o b = if o.kind = 1 then some (b.map lowerF) else if o.kind = 2 then some (b.map upperF) else if o.kind = 3 then percF false 0 b else some (b.filter fun x => !o.old.contains x) := by
    intro b; unfold doF; rw [if_neg (by simp [hv])]
    rcases hk with h | h | h | h <;> simp [h]
  rw [hd, hd, hd]
  rcases hk with h | h | h | h
  · refine ⟨by simp [h], fun x y hx hy => ?_⟩
    simp [h] at hx hy ⊢; rw [← hx, ← hy]
  · refine ⟨by simp [h], fun x y hx hy => ?_⟩
    simp [h] at hx hy ⊢; rw [← hx, ← hy]
  · refine ⟨by simp [h], fun x y hx hy => ?_⟩
    simp [h] at hx hy ⊢; rw [← hx, ← hy]
  · refine ⟨fun _ => h, fun x y hx hy => ?_⟩
    simp [h] at hx hy ⊢
    rw [percF_append b 0 x (Nat.zero_le _) hx, hy]; rfl
def kind4 (k : Int) : Int := if k % 4 = 0 then 1 else if k % 4 = 1 then 2 else if k % 4 = 2 then 7 else 3
theorem kind4_in (k : Int) : kind4 k = 1 ∨ kind4 k = 2 ∨ kind4 k = 7 ∨ kind4 k = 3 := by
  unfold kind4; repeat' split
  all_goals simp
theorem kind4_at (k : Int) : [Value.int .i64 1, .int .i64 2, .int .i64 7, .int .i64 3][(k % 4).toNat]? = some (.int .i64 (kind4 k)) := by
  have h : k % 4 = 0 ∨ k % 4 = 1 ∨ k % 4 = 2 ∨ k % 4 = 3 := by omega
  unfold kind4
  rcases h with h | h | h | h <;> rw [h] <;> rfl
theorem made_kind4 (k : Int) (a b : List UInt8) : (madeO ⟨kind4 k - 1, a, b⟩).kind = kind4 k := by
  rw [made_kind]; show 1 + (kind4 k - 1) % 8 = kind4 k
  have := kind4_in k; omega
theorem repF_len {old new : List UInt8} (hn : new.length ≤ 4) : ∀ (l : List UInt8) (m s : Nat), (repF old new m s l).length ≤ 4 * l.length
  | [], _, _ => by simp [repF]
  | x :: t, m, s + 1 => by rw [repF]; have := repF_len (old := old) hn t m s; simp only [List.length_cons]; omega
  | x :: t, m, 0 => by
    have h1 := repF_len (old := old) hn t (m - 1) (old.length - 1)
    have h2 := repF_len (old := old) hn t m 0
    rw [repF]; split
    · rw [List.length_append, List.length_cons]; omega
    · simp only [List.length_cons]; omega
theorem trim_at0 {c : List Nat} {b : List UInt8} (h : 0 < (trimF c b).length) : hasF c (trimF c b)[0] = false := by
  have e : trimF c b = (trimF c b)[0] :: (trimF c b).drop 1 := by
    conv => lhs; rw [← List.drop_zero (l := trimF c b), List.drop_eq_getElem_cons h]
  exact trim_first e
theorem trim_atl {c : List Nat} {b : List UInt8} (h : (trimF c b).length - 1 < (trimF c b).length) : hasF c (trimF c b)[(trimF c b).length - 1] = false := trim_last (rest_snoc (by omega))
theorem trim_len (c : List Nat) (b : List UInt8) : (trimF c b).length ≤ b.length := by
  obtain ⟨p, s, h, _, _⟩ := trim_split c b
  have := congrArg List.length h
  simp only [List.length_append] at this; omega
theorem do_len4 {o : OpV} {b x : List UInt8} (hv : validO o = true) (hk : o.kind = 1 ∨ o.kind = 2 ∨ o.kind = 7 ∨ o.kind = 3) (h : doF o b = some x) : x.length ≤ b.length := by
  unfold doF at h; rw [if_neg (by simp [hv])] at h
  rcases hk with e | e | e | e
  · simp [e] at h; rw [← h, List.length_map]; exact Nat.le_refl _
  · simp [e] at h; rw [← h, List.length_map]; exact Nat.le_refl _
  · simp [e] at h; rw [← h]; exact List.length_filter_le _ _
  · simp [e] at h; exact percF_len b 0 x h
end Go.Proofs.YtffbfibpfnlfeaaGreatDoor
