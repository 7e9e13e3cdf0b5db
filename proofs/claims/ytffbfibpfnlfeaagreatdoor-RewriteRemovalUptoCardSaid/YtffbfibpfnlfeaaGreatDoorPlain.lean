/- Package rewrite: the laws, in plain words. -/
import Derived.Test.YtffbfibpfnlfeaaGreatDoorModel
namespace Go.Proofs.YtffbfibpfnlfeaaGreatDoor
open Go Go.Ex

theorem u8_all {p : UInt8 → Prop} (h : ∀ n : Fin 256, p (UInt8.ofNat n.val)) (x : UInt8) : p x := by
  have := h ⟨x.toNat, x.toNat_lt⟩
  simpa using this

/-! ### case -/
theorem lower_lower (x : UInt8) : lowerF (lowerF x) = lowerF x := by revert x; exact u8_all (by decide +kernel)
theorem upper_upper (x : UInt8) : upperF (upperF x) = upperF x := by revert x; exact u8_all (by decide +kernel)
theorem lower_upper (x : UInt8) : lowerF (upperF x) = lowerF x := by revert x; exact u8_all (by decide +kernel)
theorem upper_lower (x : UInt8) : upperF (lowerF x) = upperF x := by revert x; exact u8_all (by decide +kernel)

/-! ### percent sequences -/
theorem pairF_some {t c : List UInt8} {y : UInt8} (h : pairF t = some y) : pairF (t ++ c) = some y ∧ 2 ≤ t.length := by
  match t, h with
  | a :: b :: r, h => exact ⟨h, by simp⟩
theorem percF_append {c : List UInt8} : ∀ (b : List UInt8) (s : Nat) (x : List UInt8), s ≤ b.length → percF false s b = some x → percF false s (b ++ c) = (percF false 0 c).map (x ++ ·)
  | [], s, x, hs, h => by
    obtain rfl : s = 0 := by simpa using hs
    obtain rfl : [] = x := by simpa [percF] using h
    simp
  | a :: t, s + 1, x, hs, h => by
    rw [List.cons_append, percF]
    exact percF_append t s x (by simpa using hs) (by simpa [percF] using h)
  | a :: t, 0, x, _, h => by
    rw [percF] at h
    rw [List.cons_append, percF]
    by_cases ha : a = 37
    · rw [if_pos ha] at h ⊢
      cases hp : pairF t with
      | none => rw [hp] at h; simp at h
      | some y =>
        obtain ⟨h1, h2⟩ := pairF_some (c := c) hp
        rw [hp] at h; rw [h1]
        cases hq : percF false 2 t with
        | none => rw [hq] at h; cases h
        | some z =>
          rw [hq] at h
          obtain rfl : y :: z = x := by simpa using h
          show Option.map _ (percF false 2 (t ++ c)) = _
          rw [percF_append t 2 z h2 hq]
          simp [Function.comp_def]
    · rw [if_neg ha] at h ⊢
      cases hq : percF false 0 t with
      | none => rw [hq] at h; cases h
      | some z =>
        rw [hq] at h
        obtain rfl : a :: z = x := by simpa using h
        rw [percF_append t 0 z (Nat.zero_le _) hq]
        simp [Function.comp_def]
theorem percF_lax : ∀ (b : List UInt8) (s : Nat) (x : List UInt8), percF false s b = some x → percF true s b = some x
  | [], _, _, h => h
  | a :: t, s + 1, x, h => percF_lax t s x h
  | a :: t, 0, x, h => by
    rw [percF] at h ⊢
    by_cases ha : a = 37
    · rw [if_pos ha] at h ⊢
      cases hp : pairF t with
      | none => rw [hp] at h; simp at h
      | some y =>
        rw [hp] at h
        cases hq : percF false 2 t with
        | none => simp [hq] at h
        | some z => simp only [hq] at h; simp only [percF_lax t 2 z hq]; exact h
    · rw [if_neg ha] at h ⊢
      cases hq : percF false 0 t with
      | none => simp [hq] at h
      | some z => simp only [hq] at h; simp only [percF_lax t 0 z hq]; exact h
theorem percF_len {lax : Bool} : ∀ (b : List UInt8) (s : Nat) (x : List UInt8), percF lax s b = some x → x.length ≤ b.length
  | [], _, _, h => by
    rw [percF] at h
    obtain rfl := (Option.some.inj h)
    simp
  | a :: t, s + 1, x, h => Nat.le_trans (percF_len t s x h) (by simp)
  | a :: t, 0, x, h => by
    have key : ∀ s y, (percF lax s t).map (y :: ·) = some x → x.length ≤ (a :: t).length := by
      intro s y hq
      cases hq' : percF lax s t with
      | none => rw [hq'] at hq; cases hq
      | some z =>
        rw [hq'] at hq
        obtain rfl : y :: z = x := by simpa using hq
        have := percF_len t s z hq'
        simp only [List.length_cons]; omega
    rw [percF] at h
    by_cases ha : a = 37
    · rw [if_pos ha] at h
      cases hp : pairF t with
      | none =>
        rw [hp] at h
        cases lax with
        | true => exact key 0 a h
        | false => simp at h
      | some y => rw [hp] at h; exact key 2 y h
    · rw [if_neg ha] at h; exact key 0 a h
theorem percF_true : ∀ (b : List UInt8) (s : Nat), ∃ x, percF true s b = some x
  | [], _ => ⟨_, rfl⟩
  | a :: t, s + 1 => percF_true t s
  | a :: t, 0 => by
    rw [percF]
    by_cases ha : a = 37
    · rw [if_pos ha]
      cases hp : pairF t with
      | none => obtain ⟨z, hz⟩ := percF_true t 0; exact ⟨_, by simp only [hz]; rfl⟩
      | some y => obtain ⟨z, hz⟩ := percF_true t 2; exact ⟨_, by simp only [hz]; rfl⟩
    · rw [if_neg ha]; obtain ⟨z, hz⟩ := percF_true t 0; exact ⟨_, by rw [hz]; rfl⟩

/-! ### squeezing -/
theorem sqF_sqF (c : UInt8) : ∀ (p : Bool) (l : List UInt8), sqF c p (sqF c p l) = sqF c p l
  | _, [] => rfl
  | p, x :: t => by
    by_cases hx : x = c
    · cases p
      · simp [sqF, hx, sqF_sqF c true t]
      · simp [sqF, hx, sqF_sqF c true t]
    · simp [sqF, hx, sqF_sqF c false t]
theorem sqF_head (c : UInt8) : ∀ (t : List UInt8), (sqF c true t).head? ≠ some c
  | [] => by simp [sqF]
  | x :: t => by
    by_cases hx : x = c
    · simp [sqF, hx]; simpa using sqF_head c t
    · simp [sqF, hx]
theorem sqF_two (c : UInt8) : ∀ (p : Bool) (l : List UInt8) (i : Nat), (sqF c p l)[i]? = some c → (sqF c p l)[i + 1]? ≠ some c
  | _, [], _, h => by simp [sqF] at h
  | p, x :: t, i, h => by
    by_cases hx : x = c
    · cases p
      · simp only [sqF, hx, if_true, Bool.false_eq_true, if_false] at h ⊢
        cases i with
        | zero => rw [List.getElem?_cons_succ, ← List.head?_eq_getElem?]; exact sqF_head c t
        | succ i => rw [List.getElem?_cons_succ] at h ⊢; exact sqF_two c true t i h
      · simp only [sqF, hx, if_true] at h ⊢
        exact sqF_two c true t i h
    · simp only [sqF, hx, if_false] at h ⊢
      cases i with
      | zero => exact absurd (by simpa using h) hx
      | succ i => rw [List.getElem?_cons_succ] at h ⊢; exact sqF_two c false t i h

/-! ### replacement unfolds -/
theorem repF_big (old new : List UInt8) : ∀ (l : List UInt8) (m m' s : Nat), l.length ≤ m → l.length ≤ m' → repF old new m s l = repF old new m' s l
  | [], _, _, _, _, _ => by simp [repF]
  | _ :: t, m, m', s + 1, h, h' => by
    rw [repF, repF]; exact repF_big old new t m m' s (by simp at h; omega) (by simp at h'; omega)
  | x :: t, m, m', 0, h, h' => by
    simp only [List.length_cons] at h h'
    rw [repF, repF]
    by_cases hp : old.isPrefixOf (x :: t) = true
    · rw [if_pos ⟨by omega, hp⟩, if_pos ⟨by omega, hp⟩, repF_big old new t (m - 1) (m' - 1) _ (by omega) (by omega)]
    · rw [if_neg (fun h => hp h.2), if_neg (fun h => hp h.2), repF_big old new t m m' 0 (by omega) (by omega)]
theorem unfold_first {old new b : List UInt8} {i : Nat} (ho : old ≠ []) (h : idxF old b = some i) : repF old new 1 0 b = (b.take i ++ new) ++ b.drop (i + old.length) := by
  rw [(repF_some old new ho 1 b i (by omega) h).1, repF_zero]; simp
theorem unfold_all {old new b : List UInt8} {i : Nat} (ho : old ≠ []) (h : idxF old b = some i) : repF old new b.length 0 b = (b.take i ++ new) ++ repF old new (b.drop (i + old.length)).length 0 (b.drop (i + old.length)) := by
  have hpos : 0 < old.length := List.length_pos_iff.2 ho
  have h2 := (repF_some old new ho b.length b i (by have := (repF_some old new ho 1 b i (by omega) h).2; omega) h)
  rw [h2.1, repF_big old new _ (b.length - 1) (b.drop (i + old.length)).length 0 (by rw [List.length_drop]; omega) (Nat.le_refl _)]; simp
theorem idxF_next {old b : List UInt8} {i : Nat} (hi : i < b.length) (h : idxF old b = (idxF old (b.drop i)).map (· + i)) (hp : ¬ old.isPrefixOf (b.drop i) = true) : idxF old b = (idxF old (b.drop (i + 1))).map (· + (i + 1)) := by
  rw [h]
  rw [List.drop_eq_getElem_cons hi] at hp ⊢
  rw [idxF, if_neg hp, Option.map_map]
  congr 1; funext z; simp only [Function.comp]; omega
theorem idxF_here {old b : List UInt8} {i : Nat} (hi : i < b.length) (h : idxF old b = (idxF old (b.drop i)).map (· + i)) (hp : old.isPrefixOf (b.drop i) = true) : idxF old b = some i := by
  rw [h]
  rw [List.drop_eq_getElem_cons hi] at hp ⊢
  rw [idxF, if_pos hp]; simp
theorem idxF_end {old b : List UInt8} (ho : old ≠ []) (h : idxF old b = (idxF old (b.drop b.length)).map (· + b.length)) : idxF old b = none := by
  rw [h, List.drop_length, idxF, if_neg ho]; rfl

/-! ### trimming -/
theorem mem_tw {p : UInt8 → Bool} {x : UInt8} : ∀ {l : List UInt8}, x ∈ l.takeWhile p → p x = true
  | [], h => by simp at h
  | a :: l, h => by
    by_cases ha : p a = true
    · rw [List.takeWhile_cons_of_pos ha] at h
      rcases List.mem_cons.1 h with rfl | h
      · exact ha
      · exact mem_tw h
    · rw [List.takeWhile_cons_of_neg ha] at h; cases h
theorem dropWhile_head {p : UInt8 → Bool} : ∀ (l : List UInt8) (a : UInt8) (t : List UInt8), l.dropWhile p = a :: t → p a = false
  | [], _, _, h => by cases h
  | x :: l, a, t, h => by
    by_cases hx : p x = true
    · rw [List.dropWhile_cons_of_pos hx] at h; exact dropWhile_head l a t h
    · rw [List.dropWhile_cons_of_neg hx] at h
      obtain ⟨rfl, _⟩ := List.cons.inj h
      simpa using hx
/-- What is left of b: members, the part, members. -/
theorem trim_split (c : List Nat) (b : List UInt8) : ∃ pre suf, b = pre ++ (trimF c b ++ suf) ∧ (∀ x ∈ pre, hasF c x = true) ∧ (∀ x ∈ suf, hasF c x = true) := by
  refine ⟨b.takeWhile (hasF c), ((b.dropWhile (hasF c)).reverse.takeWhile (hasF c)).reverse, ?_, fun x hx => ?_, fun x hx => ?_⟩
  · have h := List.takeWhile_append_dropWhile (p := hasF c) (l := (b.dropWhile (hasF c)).reverse)
    have h2 := congrArg List.reverse h
    rw [List.reverse_append, List.reverse_reverse] at h2
    show b = _ ++ (((b.dropWhile (hasF c)).reverse.dropWhile (hasF c)).reverse ++ _)
    rw [h2, List.takeWhile_append_dropWhile]
  · exact (mem_tw hx)
  · exact (mem_tw (List.mem_reverse.1 hx))
theorem trim_first {c : List Nat} {b : List UInt8} {a : UInt8} {t : List UInt8} (h : trimF c b = a :: t) : hasF c a = false := by
  obtain ⟨s, hs⟩ : trimF c b <+: b.dropWhile (hasF c) := by
    unfold trimF
    rw [← List.reverse_reverse (List.dropWhile (hasF c) b), List.reverse_prefix, List.reverse_reverse]
    exact List.dropWhile_suffix _
  rw [h] at hs
  exact dropWhile_head b a (t ++ s) hs.symm
theorem trim_last {c : List Nat} {b : List UInt8} {a : UInt8} {t : List UInt8} (h : trimF c b = t ++ [a]) : hasF c a = false := by
  unfold trimF at h
  have h2 := congrArg List.reverse h
  rw [List.reverse_reverse, List.reverse_append] at h2
  exact dropWhile_head _ a t.reverse h2
theorem trim_trim (c : List Nat) (b : List UInt8) : trimF c (trimF c b) = trimF c b := by
  rcases hl : trimF c b with _ | ⟨a, t⟩
  · rfl
  · have h1 := trim_first hl
    unfold trimF
    rw [List.dropWhile_cons_of_neg (by simp [h1])]
    rcases List.eq_nil_or_concat (a :: t) with h | ⟨q, z, h⟩
    · cases h
    · rw [List.concat_eq_append] at h
      rw [h, List.reverse_append, List.reverse_singleton, List.singleton_append, List.dropWhile_cons_of_neg (by simp [trim_last (hl.trans h)])]
      simp
/-! ### letters and bits -/
theorem low_bits : ∀ x : UInt8, (65 ≤ x.toNat ∧ x.toNat ≤ 90 ∨ 97 ≤ x.toNat ∧ x.toNat ≤ 122) → bitsI .or .u8 (x.toNat : Int) 32 = ((lowerF x).toNat : Int) := u8_all (by decide +kernel)
theorem up_bits : ∀ x : UInt8, (65 ≤ x.toNat ∧ x.toNat ≤ 90 ∨ 97 ≤ x.toNat ∧ x.toNat ≤ 122) → bitsI .andNot .u8 (x.toNat : Int) 32 = ((upperF x).toNat : Int) := u8_all (by decide +kernel)
theorem low_other {x : UInt8} (h : ¬ (65 ≤ x.toNat ∧ x.toNat ≤ 90)) : lowerF x = x := lowerF_f h
theorem up_other {x : UInt8} (h : ¬ (97 ≤ x.toNat ∧ x.toNat ≤ 122)) : upperF x = x := upperF_f h

/-! ### the encoding of bytes as percent sequences -/
def hexS (cap : Bool) : List UInt8 := if cap then [48, 49, 50, 51, 52, 53, 54, 55, 56, 57, 65, 66, 67, 68, 69, 70] else [48, 49, 50, 51, 52, 53, 54, 55, 56, 57, 97, 98, 99, 100, 101, 102]
def encB (cap : Bool) (x : UInt8) : List UInt8 := [37, (hexS cap).getD (x.toNat / 16) 0, (hexS cap).getD (x.toNat % 16) 0]
def encF (cap : Bool) (b : List UInt8) : List UInt8 := b.flatMap (encB cap)
theorem hexS_1 (cap : Bool) : ∀ x : UInt8, hexF ((hexS cap).getD (x.toNat / 16) 0) = some (UInt8.ofNat (x.toNat / 16)) := by cases cap <;> exact u8_all (by decide +kernel)
theorem hexS_2 (cap : Bool) : ∀ x : UInt8, hexF ((hexS cap).getD (x.toNat % 16) 0) = some (UInt8.ofNat (x.toNat % 16)) := by cases cap <;> exact u8_all (by decide +kernel)
theorem hexS_join : ∀ x : UInt8, 16 * UInt8.ofNat (x.toNat / 16) + UInt8.ofNat (x.toNat % 16) = x := u8_all (by decide +kernel)
theorem enc_dec (cap lax : Bool) : ∀ b : List UInt8, percF lax 0 (encF cap b) = some b
  | [] => rfl
  | x :: t => by
    show percF lax 0 (37 :: (hexS cap).getD (x.toNat / 16) 0 :: (hexS cap).getD (x.toNat % 16) 0 :: encF cap t) = _
    rw [perc_pair rfl (by rw [hexS_1]; rfl) (by rw [hexS_2]; rfl), enc_dec cap lax t, hexS_1, hexS_2]
    show some ((16 * UInt8.ofNat (x.toNat / 16) + UInt8.ofNat (x.toNat % 16)) :: t) = _
    rw [hexS_join]
theorem enc_snoc (cap : Bool) (b : List UInt8) (k : Nat) (h : k < b.length) : encF cap (b.take (k + 1)) = encF cap (b.take k) ++ encB cap b[k] := by
  unfold encF; rw [List.take_add_one, List.getElem?_eq_getElem h, List.flatMap_append]; simp
theorem enc_len (cap : Bool) : ∀ b : List UInt8, (encF cap b).length = 3 * b.length
  | [] => rfl
  | x :: t => by
    have := enc_len cap t
    show (encB cap x ++ encF cap t).length = _
    simp only [List.length_append, this, encB, List.length_cons, List.length_nil]; omega
theorem do3 (b : List UInt8) : doF ⟨3, [], []⟩ b = percF false 0 b := by simp [doF, validO, sizesF]
theorem do4 (b : List UInt8) : doF ⟨4, [], []⟩ b = percF true 0 b := by simp [doF, validO, sizesF]
theorem do1 (b : List UInt8) : doF ⟨1, [], []⟩ b = some (b.map lowerF) := by simp [doF, validO, sizesF]
theorem do2 (b : List UInt8) : doF ⟨2, [], []⟩ b = some (b.map upperF) := by simp [doF, validO, sizesF]

/-! ### the operation that is made of another one -/
def madeO (o : OpV) : OpV :=
  if 1 + o.kind % 8 = 5 ∨ 1 + o.kind % 8 = 6 then ⟨1 + o.kind % 8, (if o.old = [] then [97] else o.old).take 4, o.new.take 4⟩
  else if 1 + o.kind % 8 = 7 then ⟨1 + o.kind % 8, (if o.old = [] then [97] else o.old).take 8, []⟩
  else if 1 + o.kind % 8 = 8 then ⟨1 + o.kind % 8, (if o.old = [] then [97] else o.old).take 1, []⟩
  else ⟨1 + o.kind % 8, [], []⟩
theorem oldP (l : List UInt8) : 0 < (if l = [] then [97] else l : List UInt8).length := by
  by_cases h : l = []
  · rw [if_pos h]; simp
  · rw [if_neg h]; exact List.length_pos_iff.2 h
theorem made_kind (o : OpV) : (madeO o).kind = 1 + o.kind % 8 := by
  unfold madeO; repeat' split
  all_goals rfl
theorem made_cases (o : OpV) : (∃ k, (k = 1 ∨ k = 2 ∨ k = 3 ∨ k = 4) ∧ madeO o = ⟨k, [], []⟩) ∨ (∃ k old new, (k = 5 ∨ k = 6) ∧ madeO o = ⟨k, old, new⟩ ∧ 1 ≤ old.length ∧ old.length ≤ 4 ∧ new.length ≤ 4) ∨ (∃ old, madeO o = ⟨7, old, []⟩ ∧ 1 ≤ old.length ∧ old.length ≤ 8) ∨ (∃ c, madeO o = ⟨8, [c], []⟩) := by
  have hp := oldP o.old
  have hk : 1 ≤ 1 + o.kind % 8 ∧ 1 + o.kind % 8 ≤ 8 := by omega
  unfold madeO
  by_cases h1 : 1 + o.kind % 8 = 5 ∨ 1 + o.kind % 8 = 6
  · rw [if_pos h1]
    exact .inr (.inl ⟨_, _, _, h1, rfl, by rw [List.length_take]; omega, by rw [List.length_take]; omega, by rw [List.length_take]; omega⟩)
  · rw [if_neg h1]
    by_cases h2 : 1 + o.kind % 8 = 7
    · rw [if_pos h2, h2]
      exact .inr (.inr (.inl ⟨_, rfl, by rw [List.length_take]; omega, by rw [List.length_take]; omega⟩))
    · rw [if_neg h2]
      by_cases h3 : 1 + o.kind % 8 = 8
      · rw [if_pos h3, h3]
        obtain ⟨c, hc⟩ := List.length_eq_one_iff.1 (show ((if o.old = [] then [97] else o.old : List UInt8).take 1).length = 1 by rw [List.length_take]; omega)
        exact .inr (.inr (.inr ⟨c, by rw [hc]⟩))
      · rw [if_neg h3]
        exact .inl ⟨_, by omega, rfl⟩
theorem made_valid (o : OpV) : validO (madeO o) = true := by
  rcases made_cases o with ⟨k, hk, e⟩ | ⟨k, old, new, hk, e, h1, h2, h3⟩ | ⟨old, e, h1, h2⟩ | ⟨c, e⟩
  · rw [e]; rcases hk with rfl | rfl | rfl | rfl <;> rfl
  · rw [e]; refine validO_t (l := 1) (m := 4) (f := 4) ?_ ⟨h1, h2, h3⟩; rcases hk with rfl | rfl <;> rfl
  · rw [e]; exact validO_t (l := 1) (m := 8) (f := 0) rfl ⟨h1, h2, Nat.le_refl _⟩
  · rw [e]; rfl
theorem made_len (o : OpV) : (madeO o).old.length ≤ 8 ∧ (madeO o).new.length ≤ 4 := by
  rcases made_cases o with ⟨k, hk, e⟩ | ⟨k, old, new, hk, e, h1, h2, h3⟩ | ⟨old, e, h1, h2⟩ | ⟨c, e⟩
  · rw [e]; exact ⟨by simp, by simp⟩
  · rw [e]; exact ⟨by simp only; omega, h3⟩
  · rw [e]; exact ⟨h2, by simp⟩
  · rw [e]; exact ⟨by simp, by simp⟩
/-! spoiled operations -/
theorem bad_kind {k : Int} {a b : List UInt8} (h : k = 0 ∨ k = 9) : validO ⟨k, a, b⟩ = false := by
  rcases h with rfl | rfl <;> rfl
theorem bad_long {k : Int} {a b : List UInt8} (h : 8 < a.length ∨ 4 < b.length) : validO ⟨k, a, b⟩ = false := by
  unfold validO
  cases hz : sizesF k with
  | none => rfl
  | some q =>
    obtain ⟨l, m, f⟩ := q
    have : m ≤ 8 ∧ f ≤ 4 := by
      unfold sizesF at hz
      repeat' split at hz
      all_goals (cases hz <;> decide)
    simp only [decide_eq_false_iff_not]; omega
theorem bad_drop {o : OpV} {b : List UInt8} (h : (madeO o).old ≠ []) : validO ⟨(madeO o).kind, [], b⟩ = false := by
  rcases made_cases o with ⟨k, hk, e⟩ | ⟨k, old, new, hk, e, h1, h2, h3⟩ | ⟨old, e, h1, h2⟩ | ⟨c, e⟩
  · rw [e] at h; exact absurd rfl h
  · rw [e]; rcases hk with rfl | rfl <;> rfl
  · rw [e]; rfl
  · rw [e]; rfl
theorem bad_add {o : OpV} {a b : List UInt8} (h : (madeO o).old = []) (ha : a ≠ []) : validO ⟨(madeO o).kind, a, b⟩ = false := by
  have hp := List.length_pos_iff.2 ha
  rcases made_cases o with ⟨k, hk, e⟩ | ⟨k, old, new, hk, e, h1, h2, h3⟩ | ⟨old, e, h1, h2⟩ | ⟨c, e⟩
  · rw [e]
    have hz : sizesF k = some (0, 0, 0) := if_pos hk
    exact Bool.eq_false_iff.2 (validO_f (o := ⟨k, a, b⟩) hz (by show ¬ (0 ≤ a.length ∧ a.length ≤ 0 ∧ b.length ≤ 0); omega))
  · rw [e] at h; simp only at h; rw [h] at h1; simp at h1
  · rw [e] at h; simp only at h; rw [h] at h1; simp at h1
  · rw [e] at h; cases h
theorem doBad {o : OpV} {b : List UInt8} (h : validO o = false) : doF o b = none := by unfold doF; rw [if_pos h]
end Go.Proofs.YtffbfibpfnlfeaaGreatDoor
