/- Package regex: expressions as trees, the words that they match, and how the code finds them. -/
import Derived.Test.YtkmgbcjfidpmgaaGreatDoorModel
namespace Go.Proofs.YtkmgbcjfidpmgaaGreatDoor
open Go Go.Ex

inductive Rg where
  | none
  | eps
  | cls (c : List Nat)
  | cat (a b : Rg)
  | alt (a b : Rg)
  | and (a b : Rg)
  | not (a : Rg)
  | rep (mn mx : Int) (a : Rg)
def Pow (P : List UInt8 → Prop) : Nat → List UInt8 → Prop
  | 0, w => w = []
  | k + 1, w => ∃ u v, w = u ++ v ∧ P u ∧ Pow P k v
def Lang : Rg → List UInt8 → Prop
  | .none, _ => False
  | .eps, w => w = []
  | .cls c, w => ∃ x, w = [x] ∧ hasF c x = true
  | .cat a b, w => ∃ u v, w = u ++ v ∧ Lang a u ∧ Lang b v
  | .alt a b, w => Lang a w ∨ Lang b w
  | .and a b, w => Lang a w ∧ Lang b w
  | .not a, w => ¬ Lang a w
  | .rep mn mx a, w => ∃ k : Nat, mn ≤ (k : Int) ∧ (mx < 0 ∨ (k : Int) ≤ mx) ∧ Pow (Lang a) k w

/-! ### the code's reckoning: for a start, the ends -/
def orL (a b : List Bool) : List Bool := List.zipWith (· || ·) a b
def afterG (f : Nat → List Bool) : Nat → List Bool → List Bool → List Bool
  | _, [], acc => acc
  | k, s :: t, acc => afterG f (k + 1) t (if s = true then orL acc (f k) else acc)
def afterB (n : Nat) (f : Nat → List Bool) (S : List Bool) : List Bool := afterG f 0 S (List.replicate (n + 1) false)
def minB (n : Nat) (f : Nat → List Bool) : Nat → List Bool → List Bool
  | 0, S => S
  | k + 1, S => minB n f k (afterB n f S)
def roundsB (n : Nat) (f : Nat → List Bool) : Nat → List Bool → List Bool
  | 0, S => S
  | k + 1, S => if orL S (afterB n f S) = S then S else roundsB n f k (orL S (afterB n f S))
def timesB (n : Nat) (f : Nat → List Bool) (mn mx : Int) (S : List Bool) : List Bool := roundsB n f (if mx < 0 then n + 1 else (mx - mn).toNat) (minB n f mn.toNat S)
def oneB (n i : Nat) : List Bool := (List.replicate (n + 1) false).set i true
def endsB (b : List UInt8) : Rg → Nat → List Bool
  | .none, _ => List.replicate (b.length + 1) false
  | .eps, i => oneB b.length i
  | .cls c, i => if (b[i]?.map (hasF c)).getD false = true then oneB b.length (i + 1) else List.replicate (b.length + 1) false
  | .cat x y, i => afterB b.length (endsB b y) (endsB b x i)
  | .alt x y, i => List.zipWith (fun p q => (p && q) || (p || q)) (endsB b x i) (endsB b y i)
  | .and x y, i => List.zipWith (fun p q => p && q) (endsB b x i) (endsB b y i)
  | .not x, i => (endsB b x i).mapIdx fun j p => decide (i ≤ j) && !p
  | .rep mn mx x, i => timesB b.length (endsB b x) mn mx (oneB b.length i)

/-! ### sets of indices -/
def inS (S : List Bool) (j : Nat) : Prop := S[j]? = some true
theorem inS_lt {S : List Bool} {j : Nat} (h : inS S j) : j < S.length := by
  rcases Nat.lt_or_ge j S.length with h' | h'
  · exact h'
  · unfold inS at h; rw [List.getElem?_eq_none h'] at h; cases h
theorem inS_ext {S T : List Bool} (hl : S.length = T.length) (h : ∀ j, inS S j ↔ inS T j) : S = T := by
  apply List.ext_getElem? ; intro j
  rcases Nat.lt_or_ge j S.length with h' | h'
  · rw [List.getElem?_eq_getElem h', List.getElem?_eq_getElem (by omega)]
    have := h j
    unfold inS at this
    rw [List.getElem?_eq_getElem h', List.getElem?_eq_getElem (by omega)] at this
    simp only [Option.some.injEq] at this ⊢
    exact Bool.eq_iff_iff.2 this
  · rw [List.getElem?_eq_none h', List.getElem?_eq_none (by omega)]
theorem orL_len (a b : List Bool) (h : a.length = b.length) : (orL a b).length = a.length := by unfold orL; rw [List.length_zipWith]; omega
theorem inS_or {a b : List Bool} (h : a.length = b.length) (j : Nat) : inS (orL a b) j ↔ inS a j ∨ inS b j := by
  unfold inS orL
  rw [List.getElem?_zipWith]
  rcases Nat.lt_or_ge j a.length with h' | h'
  · rw [List.getElem?_eq_getElem h', List.getElem?_eq_getElem (by omega)]; simp
  · rw [List.getElem?_eq_none h', List.getElem?_eq_none (by omega)]; simp
theorem not_rep (n j : Nat) : ¬ inS (List.replicate n false) j := by
  unfold inS; rw [List.getElem?_replicate]; split <;> simp
theorem oneB_len (n i : Nat) : (oneB n i).length = n + 1 := by unfold oneB; rw [List.length_set, List.length_replicate]
theorem inS_one {n i j : Nat} (h : i ≤ n) : inS (oneB n i) j ↔ j = i := by
  unfold inS oneB
  rw [List.getElem?_set, List.getElem?_replicate]
  by_cases hj : i = j
  · subst hj; rw [if_pos rfl, if_pos (by rw [List.length_replicate]; omega)]; simp
  · rw [if_neg hj]; constructor
    · intro h; split at h <;> simp at h
    · intro h; exact absurd h.symm hj
theorem afterG_spec {n : Nat} {f : Nat → List Bool} (hf : ∀ k, (f k).length = n + 1) : ∀ (S : List Bool) (k : Nat) (acc : List Bool), acc.length = n + 1 →
    (afterG f k S acc).length = n + 1 ∧ ∀ j, inS (afterG f k S acc) j ↔ inS acc j ∨ ∃ i, inS S i ∧ inS (f (k + i)) j
  | [], k, acc, h => ⟨h, fun j => by simp [afterG, inS]⟩
  | s :: t, k, acc, h => by
    have hlen : (if s = true then orL acc (f k) else acc).length = n + 1 := by
      split
      · rw [orL_len _ _ (by rw [h, hf])]; exact h
      · exact h
    obtain ⟨h1, h2⟩ := afterG_spec hf t (k + 1) _ hlen
    refine ⟨h1, fun j => ?_⟩
    show inS (afterG f (k + 1) t _) j ↔ _
    rw [h2 j]
    have hs : (∃ i, inS (s :: t) i ∧ inS (f (k + i)) j) ↔ (s = true ∧ inS (f k) j) ∨ ∃ i, inS t i ∧ inS (f (k + 1 + i)) j := by
      constructor
      · rintro ⟨i, hi, hj⟩
        cases i with
        | zero => exact .inl ⟨by simpa [inS] using hi, hj⟩
        | succ i => exact .inr ⟨i, by simpa [inS] using hi, by rw [show k + 1 + i = k + (i + 1) by omega]; exact hj⟩
      · rintro (⟨h3, h4⟩ | ⟨i, h3, h4⟩)
        · exact ⟨0, by simp [inS, h3], h4⟩
        · exact ⟨i + 1, by simpa [inS] using h3, by rw [show k + (i + 1) = k + 1 + i by omega]; exact h4⟩
    rw [hs]
    cases s with
    | true => simp only [if_true, true_and]; rw [inS_or (by rw [h, hf])]; exact or_assoc
    | false => simp
theorem afterB_spec {n : Nat} {f : Nat → List Bool} (hf : ∀ k, (f k).length = n + 1) (S : List Bool) : (afterB n f S).length = n + 1 ∧ ∀ j, inS (afterB n f S) j ↔ ∃ i, inS S i ∧ inS (f i) j := by
  obtain ⟨h1, h2⟩ := afterG_spec hf S 0 _ (List.length_replicate ..)
  refine ⟨h1, fun j => ?_⟩
  unfold afterB; rw [h2 j]
  constructor
  · rintro (h | ⟨i, h3, h4⟩)
    · exact absurd h (not_rep _ _)
    · exact ⟨i, h3, by simpa using h4⟩
  · rintro ⟨i, h3, h4⟩; exact .inr ⟨i, h3, by simpa using h4⟩
/-- k steps from i to j. -/
def PowR (R : Nat → Nat → Prop) : Nat → Nat → Nat → Prop
  | 0, i, j => j = i
  | k + 1, i, j => ∃ m, PowR R k i m ∧ R m j
theorem minB_spec {n : Nat} {f : Nat → List Bool} (hf : ∀ k, (f k).length = n + 1) {i0 : Nat} : ∀ (k k0 : Nat) (S : List Bool), S.length = n + 1 → (∀ j, inS S j ↔ PowR (fun a b => inS (f a) b) k0 i0 j) →
    (minB n f k S).length = n + 1 ∧ ∀ j, inS (minB n f k S) j ↔ PowR (fun a b => inS (f a) b) (k0 + k) i0 j
  | 0, k0, S, h, hS => ⟨h, hS⟩
  | k + 1, k0, S, h, hS => by
    obtain ⟨h1, h2⟩ := afterB_spec hf S
    have := minB_spec hf k (k0 + 1) (afterB n f S) h1 (fun j => by rw [h2 j]; simp only [PowR]; exact exists_congr fun m => by rw [hS m])
    rw [show k0 + (k + 1) = k0 + 1 + k by omega]; exact this
def cnt (S : List Bool) : Nat := S.countP (· = true)
theorem cnt_le (S : List Bool) : cnt S ≤ S.length := List.countP_le_length
theorem cnt_full {S : List Bool} (h : cnt S = S.length) : ∀ j, j < S.length → inS S j := by
  intro j hj
  have := List.countP_eq_length.1 h S[j] (List.getElem_mem hj)
  unfold inS; rw [List.getElem?_eq_getElem hj]; simpa using this
theorem cnt_or : ∀ (a b : List Bool), a.length = b.length → cnt a ≤ cnt (orL a b) ∧ (cnt (orL a b) = cnt a → orL a b = a)
  | [], [], _ => ⟨Nat.le_refl _, fun _ => rfl⟩
  | x :: a, y :: b, h => by
    obtain ⟨h1, h2⟩ := cnt_or a b (by simpa using h)
    unfold cnt orL at *
    rw [List.zipWith_cons_cons, List.countP_cons, List.countP_cons]
    cases x <;> cases y <;> simp at h1 h2 ⊢
    · exact ⟨h1, h2⟩
    · exact ⟨by omega, fun h3 => by omega⟩
    · exact ⟨h1, h2⟩
    · exact ⟨h1, h2⟩
/-- The rounds: what the steps so far reach, and what up to t further steps reach; more than n + 1 rounds reach no more. -/
theorem roundsB_spec {n : Nat} {f : Nat → List Bool} (hf : ∀ k, (f k).length = n + 1) : ∀ (k : Nat) (S : List Bool), S.length = n + 1 →
    (roundsB n f k S).length = n + 1 ∧ ∀ j, inS (roundsB n f k S) j ↔ ∃ t, t ≤ k ∧ ∃ i, inS S i ∧ PowR (fun a b => inS (f a) b) t i j
  | 0, S, h => ⟨h, fun j => ⟨fun hj => ⟨0, Nat.le_refl _, j, hj, rfl⟩, fun ⟨t, ht, i, hi, hp⟩ => by
      obtain rfl : t = 0 := by omega
      obtain rfl : j = i := hp
      exact hi⟩⟩
  | k + 1, S, h => by
    obtain ⟨a1, a2⟩ := afterB_spec hf S
    have ho : S.length = (afterB n f S).length := by omega
    have hol := orL_len _ _ ho
    have front : ∀ t i j, PowR (fun a b => inS (f a) b) (t + 1) i j ↔ ∃ m, inS (f i) m ∧ PowR (fun a b => inS (f a) b) t m j := by
      intro t
      induction t with
      | zero => intro i j; constructor
                · rintro ⟨m, hm, hj⟩; obtain rfl : m = i := hm; exact ⟨j, hj, rfl⟩
                · rintro ⟨m, hm, hj⟩; obtain rfl : j = m := hj; exact ⟨i, rfl, hm⟩
      | succ t ih => intro i j; constructor
                     · rintro ⟨m, hm, hj⟩
                       obtain ⟨m2, h2, h3⟩ := (ih i m).1 hm
                       exact ⟨m2, h2, m, h3, hj⟩
                     · rintro ⟨m, hm, m2, h3, hj⟩
                       exact ⟨m2, (ih i m2).2 ⟨m, hm, h3⟩, hj⟩
    rw [roundsB]
    by_cases hst : orL S (afterB n f S) = S
    · rw [if_pos hst]
      refine ⟨h, fun j => ⟨fun hj => ⟨0, Nat.zero_le _, j, hj, rfl⟩, fun ⟨t, ht, i, hi, hp⟩ => ?_⟩⟩
      have closed : ∀ i m, inS S i → inS (f i) m → inS S m := fun i m hi hm => by
        rw [← hst]; exact (inS_or ho m).2 (.inr ((a2 m).2 ⟨i, hi, hm⟩))
      clear ht
      induction t generalizing i with
      | zero => obtain rfl : j = i := hp; exact hi
      | succ t ih =>
        obtain ⟨m, hm, hp2⟩ := (front t i j).1 hp
        exact ih m (closed i m hi hm) hp2
    · rw [if_neg hst]
      obtain ⟨h1, h2⟩ := roundsB_spec hf k (orL S (afterB n f S)) (by omega)
      refine ⟨h1, fun j => ?_⟩
      rw [h2 j]
      constructor
      · rintro ⟨t, ht, i, hi, hp⟩
        rcases (inS_or ho i).1 hi with hi | hi
        · exact ⟨t, by omega, i, hi, hp⟩
        · obtain ⟨i2, h3, h4⟩ := (a2 i).1 hi
          exact ⟨t + 1, by omega, i2, h3, (front t i2 j).2 ⟨i, h4, hp⟩⟩
      · rintro ⟨t, ht, i, hi, hp⟩
        cases t with
        | zero => exact ⟨0, Nat.zero_le _, i, (inS_or ho i).2 (.inl hi), hp⟩
        | succ t =>
          obtain ⟨m, hm, hp2⟩ := (front t i j).1 hp
          exact ⟨t, by omega, m, (inS_or ho m).2 (.inr ((a2 m).2 ⟨i, hi, hm⟩)), hp2⟩
/-- More rounds than indices: nothing is added any more. -/
theorem roundsB_more {n : Nat} {f : Nat → List Bool} (hf : ∀ k, (f k).length = n + 1) : ∀ (k : Nat) (S : List Bool), S.length = n + 1 → n + 1 ≤ cnt S + k → roundsB n f (k + 1) S = roundsB n f k S
  | 0, S, h, hk => by
    have ho : S.length = (afterB n f S).length := by rw [(afterB_spec hf S).1, h]
    rw [roundsB, roundsB]
    split
    · rfl
    · have hfull := cnt_full (S := S) (by have := cnt_le S; omega)
      refine inS_ext (orL_len _ _ ho) fun j => ?_
      show inS (orL S (afterB n f S)) j ↔ _
      rw [inS_or ho]
      constructor
      · rintro (h1 | h1)
        · exact h1
        · exact hfull j (by have := inS_lt h1; omega)
      · exact .inl
  | k + 1, S, h, hk => by
    have ho : S.length = (afterB n f S).length := by rw [(afterB_spec hf S).1, h]
    rw [roundsB]
    conv => rhs; rw [roundsB]
    split
    · rfl
    · rename_i hne
      obtain ⟨h1, h2⟩ := cnt_or S _ ho
      have : cnt S < cnt (orL S (afterB n f S)) := by
        rcases Nat.lt_or_ge (cnt S) (cnt (orL S (afterB n f S))) with h3 | h3
        · exact h3
        · exact absurd (h2 (by omega)) hne
      exact roundsB_more hf k _ (by rw [orL_len _ _ ho]; exact h) (by omega)
theorem roundsB_inf {n : Nat} {f : Nat → List Bool} (hf : ∀ k, (f k).length = n + 1) {S : List Bool} (h : S.length = n + 1) : ∀ k, roundsB n f (n + 1 + k) S = roundsB n f (n + 1) S
  | 0 => rfl
  | k + 1 => by rw [← Nat.add_assoc, roundsB_more hf (n + 1 + k) S h (by omega), roundsB_inf hf h k]

/-! ### parts of the word -/
def seg (b : List UInt8) (i j : Nat) : List UInt8 := (b.drop i).take (j - i)
theorem seg_len {b : List UInt8} {i j : Nat} (h : i ≤ j) (h2 : j ≤ b.length) : (seg b i j).length = j - i := by unfold seg; rw [List.length_take, List.length_drop]; omega
theorem seg_append {b : List UInt8} {i k j : Nat} (h : i ≤ k) (h2 : k ≤ j) : seg b i j = seg b i k ++ seg b k j := by
  unfold seg
  rw [show j - i = (k - i) + (j - k) by omega, List.take_add, List.drop_drop, show i + (k - i) = k by omega]
theorem seg_split {b u v : List UInt8} {i j : Nat} (h : i ≤ j) (h2 : j ≤ b.length) (he : seg b i j = u ++ v) : ∃ k, i ≤ k ∧ k ≤ j ∧ u = seg b i k ∧ v = seg b k j := by
  have hl := congrArg List.length he
  rw [seg_len h h2, List.length_append] at hl
  refine ⟨i + u.length, by omega, by omega, ?_, ?_⟩
  · calc u = (seg b i j).take u.length := by rw [he, List.take_left]
      _ = seg b i (i + u.length) := by unfold seg; rw [List.take_take]; congr 1; omega
  · calc v = (seg b i j).drop u.length := by rw [he, List.drop_left]
      _ = seg b (i + u.length) j := by unfold seg; rw [List.drop_take, List.drop_drop]; congr 1; omega
theorem seg_nil {b : List UInt8} {i j : Nat} (h : i ≤ j) (h2 : j ≤ b.length) : seg b i j = [] ↔ j = i := by
  constructor
  · intro h3; have := congrArg List.length h3; rw [seg_len h h2] at this; simp at this; omega
  · rintro rfl; unfold seg; simp
theorem seg_one {b : List UInt8} {i j : Nat} (h : i ≤ j) (h2 : j ≤ b.length) {x : UInt8} : seg b i j = [x] ↔ j = i + 1 ∧ b[i]? = some x := by
  constructor
  · intro h3
    have hl := congrArg List.length h3
    rw [seg_len h h2, List.length_singleton] at hl
    obtain rfl : j = i + 1 := by omega
    refine ⟨rfl, ?_⟩
    unfold seg at h3
    rw [List.drop_eq_getElem_cons (by omega), show i + 1 - i = 0 + 1 by omega, List.take_succ_cons] at h3
    rw [List.getElem?_eq_getElem (by omega)]
    simpa using h3
  · rintro ⟨rfl, h3⟩
    obtain ⟨h4, h5⟩ := List.getElem?_eq_some_iff.1 h3
    unfold seg
    rw [List.drop_eq_getElem_cons h4, show i + 1 - i = 0 + 1 by omega, List.take_succ_cons, h5]; simp
theorem powR_lang {b : List UInt8} {P : List UInt8 → Prop} {R : Nat → Nat → Prop} (hR : ∀ i j, i ≤ b.length → (R i j ↔ i ≤ j ∧ j ≤ b.length ∧ P (seg b i j))) : ∀ (k i j : Nat), i ≤ b.length → (PowR R k i j ↔ i ≤ j ∧ j ≤ b.length ∧ Pow P k (seg b i j)) := by
  have front : ∀ t i j, PowR R (t + 1) i j ↔ ∃ m, R i m ∧ PowR R t m j := by
    intro t
    induction t with
    | zero => intro i j; constructor
              · rintro ⟨m, hm, hj⟩; obtain rfl : m = i := hm; exact ⟨j, hj, rfl⟩
              · rintro ⟨m, hm, hj⟩; obtain rfl : j = m := hj; exact ⟨i, rfl, hm⟩
    | succ t ih => intro i j; constructor
                   · rintro ⟨m, hm, hj⟩
                     obtain ⟨m2, h2, h3⟩ := (ih i m).1 hm
                     exact ⟨m2, h2, m, h3, hj⟩
                   · rintro ⟨m, hm, m2, h3, hj⟩
                     exact ⟨m2, (ih i m2).2 ⟨m, hm, h3⟩, hj⟩
  intro k
  induction k with
  | zero => intro i j hi; constructor
            · intro h; obtain rfl : j = i := h; exact ⟨Nat.le_refl _, hi, (seg_nil (Nat.le_refl _) hi).2 rfl⟩
            · rintro ⟨h1, h2, h3⟩; exact (seg_nil h1 h2).1 h3
  | succ k ih => intro i j hi
                 rw [front]
                 constructor
                 · rintro ⟨m, hm, hp⟩
                   obtain ⟨h1, h2, h3⟩ := (hR i m hi).1 hm
                   obtain ⟨h4, h5, h6⟩ := (ih m j h2).1 hp
                   exact ⟨by omega, h5, _, _, seg_append h1 h4, h3, h6⟩
                 · rintro ⟨h1, h2, u, v, he, hu, hv⟩
                   obtain ⟨m, h3, h4, rfl, rfl⟩ := seg_split h1 h2 he
                   exact ⟨m, (hR i m hi).2 ⟨h3, by omega, hu⟩, (ih m j (by omega)).2 ⟨h4, h2, hv⟩⟩
theorem timesB_spec {n : Nat} {f : Nat → List Bool} (hf : ∀ k, (f k).length = n + 1) {mn mx : Int} (h0 : 0 ≤ mn) (hm : mx < 0 ∨ mn ≤ mx) {i : Nat} (hi : i ≤ n) :
    (timesB n f mn mx (oneB n i)).length = n + 1 ∧ ∀ j, inS (timesB n f mn mx (oneB n i)) j ↔ ∃ k : Nat, mn ≤ (k : Int) ∧ (mx < 0 ∨ (k : Int) ≤ mx) ∧ PowR (fun a b => inS (f a) b) k i j := by
  obtain ⟨h1, h2⟩ := minB_spec hf (i0 := i) mn.toNat 0 (oneB n i) (oneB_len n i) (fun j => by rw [inS_one hi]; rfl)
  have add : ∀ (t k a c : Nat), PowR (fun a b => inS (f a) b) (k + t) a c ↔ ∃ m, PowR (fun a b => inS (f a) b) k a m ∧ PowR (fun a b => inS (f a) b) t m c := by
    intro t
    induction t with
    | zero => intro k a c; constructor
              · intro h; exact ⟨c, h, rfl⟩
              · rintro ⟨m, hm, hc⟩; obtain rfl : c = m := hc; exact hm
    | succ t ih => intro k a c
                   rw [← Nat.add_assoc]
                   constructor
                   · rintro ⟨m, hm, hc⟩
                     obtain ⟨m2, h3, h4⟩ := (ih k a m).1 hm
                     exact ⟨m2, h3, m, h4, hc⟩
                   · rintro ⟨m2, h3, m, h4, hc⟩
                     exact ⟨m, (ih k a m).2 ⟨m2, h3, h4⟩, hc⟩
  unfold timesB
  have key : ∀ K, (roundsB n f K (minB n f mn.toNat (oneB n i))).length = n + 1 ∧ ∀ j, inS (roundsB n f K (minB n f mn.toNat (oneB n i))) j ↔ ∃ t, t ≤ K ∧ PowR (fun a b => inS (f a) b) (mn.toNat + t) i j := by
    intro K
    obtain ⟨h3, h4⟩ := roundsB_spec hf K _ h1
    refine ⟨h3, fun j => ?_⟩
    rw [h4 j]
    refine exists_congr fun t => and_congr_right fun _ => ?_
    rw [add t]
    exact exists_congr fun m => by rw [h2 m, Nat.zero_add]
  by_cases hx : mx < 0
  · rw [if_pos hx]
    refine ⟨(key _).1, fun j => ?_⟩
    constructor
    · intro h
      obtain ⟨t, _, hp⟩ := ((key _).2 j).1 h
      exact ⟨mn.toNat + t, by omega, .inl hx, hp⟩
    · rintro ⟨k, hk, _, hp⟩
      have h5 := ((key (n + 1 + (k - mn.toNat))).2 j).2 ⟨k - mn.toNat, by omega, by rw [show mn.toNat + (k - mn.toNat) = k by omega]; exact hp⟩
      rwa [roundsB_inf hf h1] at h5
  · rw [if_neg hx]
    refine ⟨(key _).1, fun j => ?_⟩
    rw [(key _).2 j]
    constructor
    · rintro ⟨t, ht, hp⟩
      exact ⟨mn.toNat + t, by omega, .inr (by omega), hp⟩
    · rintro ⟨k, hk, hk2, hp⟩
      exact ⟨k - mn.toNat, by omega, by rw [show mn.toNat + (k - mn.toNat) = k by omega]; exact hp⟩
/-- The bounds are in order. -/
def RgOk : Rg → Prop
  | .cat a b | .alt a b | .and a b => RgOk a ∧ RgOk b
  | .not a => RgOk a
  | .rep mn mx a => 0 ≤ mn ∧ (mx < 0 ∨ mn ≤ mx) ∧ RgOk a
  | _ => True
theorem roundsB_len {n : Nat} {f : Nat → List Bool} (hf : ∀ k, (f k).length = n + 1) (k : Nat) (S : List Bool) (h : S.length = n + 1) : (roundsB n f k S).length = n + 1 := (roundsB_spec hf k S h).1
theorem minB_len {n : Nat} {f : Nat → List Bool} (hf : ∀ k, (f k).length = n + 1) : ∀ (k : Nat) (S : List Bool), S.length = n + 1 → (minB n f k S).length = n + 1
  | 0, _, h => h
  | k + 1, S, _ => minB_len hf k _ (afterB_spec hf S).1
theorem ends_len (b : List UInt8) : ∀ (t : Rg) (i : Nat), (endsB b t i).length = b.length + 1
  | .none, _ => List.length_replicate ..
  | .eps, i => oneB_len _ _
  | .cls c, i => by
    rw [endsB]; split
    · exact oneB_len _ _
    · exact List.length_replicate ..
  | .cat x y, i => (afterB_spec (ends_len b y) _).1
  | .alt x y, i => by rw [endsB, List.length_zipWith, ends_len b x, ends_len b y]; omega
  | .and x y, i => by rw [endsB, List.length_zipWith, ends_len b x, ends_len b y]; omega
  | .not x, i => by rw [endsB, List.length_mapIdx, ends_len b x]
  | .rep mn mx x, i => roundsB_len (ends_len b x) _ _ (minB_len (ends_len b x) _ _ (oneB_len _ _))
theorem inS_zip {a b : List Bool} {g : Bool → Bool → Bool} (h : a.length = b.length) (j : Nat) (hj : j < a.length) {P Q : Prop} (hP : inS a j ↔ P) (hQ : inS b j ↔ Q) {R : Prop} (hg : ∀ p q : Bool, (p = true ↔ P) → (q = true ↔ Q) → (g p q = true ↔ R)) : inS (List.zipWith g a b) j ↔ R := by
  unfold inS at *
  rw [List.getElem?_eq_getElem hj] at hP
  rw [List.getElem?_eq_getElem (by omega)] at hQ
  rw [List.getElem?_zipWith, List.getElem?_eq_getElem hj, List.getElem?_eq_getElem (by omega)]
  simp only [Option.some.injEq] at *
  exact hg _ _ hP hQ
/-- The ends that the code finds are those of the words that match. -/
theorem ends_lang (b : List UInt8) : ∀ (t : Rg), RgOk t → ∀ i j, i ≤ b.length → (inS (endsB b t i) j ↔ i ≤ j ∧ j ≤ b.length ∧ Lang t (seg b i j))
  | .none, _, i, j, hi => by
    rw [endsB]; constructor
    · intro h; exact absurd h (not_rep _ _)
    · rintro ⟨_, _, h⟩; exact h.elim
  | .eps, _, i, j, hi => by
    rw [endsB, inS_one hi]; constructor
    · rintro rfl; exact ⟨Nat.le_refl _, hi, (seg_nil (Nat.le_refl _) hi).2 rfl⟩
    · rintro ⟨h1, h2, h3⟩; exact (seg_nil h1 h2).1 h3
  | .cls c, _, i, j, hi => by
    rw [endsB]
    split
    · rename_i h0
      cases hb : b[i]? with
      | none => rw [hb] at h0; simp at h0
      | some x =>
        rw [hb] at h0
        have hx : hasF c x = true := by simpa using h0
        obtain ⟨hlt, _⟩ := List.getElem?_eq_some_iff.1 hb
        rw [inS_one (by omega)]
        constructor
        · rintro rfl; exact ⟨by omega, by omega, x, (seg_one (by omega) (by omega)).2 ⟨rfl, hb⟩, hx⟩
        · rintro ⟨h1, h2, y, h3, _⟩; exact ((seg_one h1 h2).1 h3).1
    · rename_i h0
      constructor
      · intro h; exact absurd h (not_rep _ _)
      · rintro ⟨h1, h2, y, h3, h4⟩
        obtain ⟨_, h5⟩ := (seg_one h1 h2).1 h3
        rw [h5] at h0; simp [h4] at h0
  | .cat x y, ⟨hx, hy⟩, i, j, hi => by
    rw [endsB, (afterB_spec (ends_len b y) _).2 j]
    constructor
    · rintro ⟨k, h1, h2⟩
      obtain ⟨a1, a2, a3⟩ := (ends_lang b x hx i k hi).1 h1
      obtain ⟨b1, b2, b3⟩ := (ends_lang b y hy k j a2).1 h2
      exact ⟨by omega, b2, _, _, seg_append a1 b1, a3, b3⟩
    · rintro ⟨h1, h2, u, v, he, hu, hv⟩
      obtain ⟨k, h3, h4, rfl, rfl⟩ := seg_split h1 h2 he
      exact ⟨k, (ends_lang b x hx i k hi).2 ⟨h3, by omega, hu⟩, (ends_lang b y hy k j (by omega)).2 ⟨h4, h2, hv⟩⟩
  | .alt x y, ⟨hx, hy⟩, i, j, hi => by
    rw [endsB]
    rcases Nat.lt_or_ge b.length j with hj | hj
    · constructor
      · intro h; have := inS_lt h; rw [List.length_zipWith, ends_len b x, ends_len b y] at this; omega
      · rintro ⟨_, h, _⟩; omega
    · refine inS_zip (by rw [ends_len, ends_len]) j (by rw [ends_len]; omega) (ends_lang b x hx i j hi) (ends_lang b y hy i j hi) fun p q hp hq => ?_
      rw [Bool.or_eq_true, Bool.and_eq_true, Bool.or_eq_true, hp, hq]
      constructor
      · rintro (⟨⟨h1, h2, h3⟩, _⟩ | ⟨h1, h2, h3⟩ | ⟨h1, h2, h3⟩)
        · exact ⟨h1, h2, .inl h3⟩
        · exact ⟨h1, h2, .inl h3⟩
        · exact ⟨h1, h2, .inr h3⟩
      · rintro ⟨h1, h2, h3 | h3⟩
        · exact .inr (.inl ⟨h1, h2, h3⟩)
        · exact .inr (.inr ⟨h1, h2, h3⟩)
  | .and x y, ⟨hx, hy⟩, i, j, hi => by
    rw [endsB]
    rcases Nat.lt_or_ge b.length j with hj | hj
    · constructor
      · intro h; have := inS_lt h; rw [List.length_zipWith, ends_len b x, ends_len b y] at this; omega
      · rintro ⟨_, h, _⟩; omega
    · refine inS_zip (by rw [ends_len, ends_len]) j (by rw [ends_len]; omega) (ends_lang b x hx i j hi) (ends_lang b y hy i j hi) fun p q hp hq => ?_
      rw [Bool.and_eq_true, hp, hq]
      constructor
      · rintro ⟨⟨h1, h2, h3⟩, _, _, h4⟩; exact ⟨h1, h2, h3, h4⟩
      · rintro ⟨h1, h2, h3, h4⟩; exact ⟨⟨h1, h2, h3⟩, h1, h2, h4⟩
  | .not x, hx, i, j, hi => by
    rw [endsB]
    have ih := ends_lang b x hx i j hi
    have hl := ends_len b x i
    unfold inS at *
    rw [List.getElem?_mapIdx]
    rcases Nat.lt_or_ge b.length j with hj | hj
    · rw [List.getElem?_eq_none (by omega)]
      constructor
      · intro h; cases h
      · rintro ⟨_, h, _⟩; omega
    · rw [List.getElem?_eq_getElem (by omega)] at ih ⊢
      simp only [Option.some.injEq, Option.map_some, Bool.and_eq_true, decide_eq_true_eq, Bool.not_eq_true'] at ih ⊢
      constructor
      · rintro ⟨h1, h2⟩
        refine ⟨h1, hj, fun h3 => ?_⟩
        rw [ih.2 ⟨h1, hj, h3⟩] at h2; cases h2
      · rintro ⟨h1, _, h3⟩
        refine ⟨h1, ?_⟩
        rw [Bool.eq_false_iff]; intro h4
        exact h3 (ih.1 h4).2.2
  | .rep mn mx x, ⟨h0, hm, hx⟩, i, j, hi => by
    rw [endsB, (timesB_spec (ends_len b x) h0 hm hi).2 j]
    have hR : ∀ i j, i ≤ b.length → (inS (endsB b x i) j ↔ i ≤ j ∧ j ≤ b.length ∧ Lang x (seg b i j)) := fun i j hi => ends_lang b x hx i j hi
    constructor
    · rintro ⟨k, h1, h2, hp⟩
      obtain ⟨a1, a2, a3⟩ := (powR_lang hR k i j hi).1 hp
      exact ⟨a1, a2, k, h1, h2, a3⟩
    · rintro ⟨a1, a2, k, h1, h2, a3⟩
      exact ⟨k, h1, h2, (powR_lang hR k i j hi).2 ⟨a1, a2, a3⟩⟩
/-- A word matches. -/
def matchB (t : Rg) (b : List UInt8) : Bool := (endsB b t 0).getD b.length false
theorem match_lang {t : Rg} (h : RgOk t) (b : List UInt8) : matchB t b = true ↔ Lang t b := by
  have h1 := ends_lang b t h 0 b.length (Nat.zero_le _)
  have hs : seg b 0 b.length = b := by unfold seg; simp
  rw [hs] at h1
  unfold matchB
  have hl := ends_len b t 0
  unfold inS at h1
  rw [List.getD_eq_getElem?_getD, List.getElem?_eq_getElem (by omega)] at *
  simp only [Option.some.injEq, Option.getD_some] at *
  rw [h1]; constructor
  · exact fun h => h.2.2
  · exact fun h => ⟨Nat.zero_le _, Nat.le_refl _, h⟩
end Go.Proofs.YtkmgbcjfidpmgaaGreatDoor
