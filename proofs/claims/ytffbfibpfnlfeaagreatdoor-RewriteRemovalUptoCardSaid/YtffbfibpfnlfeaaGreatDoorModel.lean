/- Package rewrite: what its functions compute, in plain words. -/
import Derived.Test.YtffbfibpfnlfeaaGreatDoorExLists
namespace Go.Proofs.YtffbfibpfnlfeaaGreatDoor
open Go Go.Ex

structure OpV where
  kind : Int
  old : List UInt8
  new : List UInt8

/-- An operation as it lies. -/
def OpR (G : Ghost) (v : Value) (o : OpV) : Prop := ∃ u1 u2, v = .agg #[.int .i64 o.kind, u1, u2] ∧ Bytes G u1 o.old ∧ Bytes G u2 o.new

def sizesF (k : Int) : Option (Nat × Nat × Nat) :=
  if k = 1 ∨ k = 2 ∨ k = 3 ∨ k = 4 then some (0, 0, 0)
  else if k = 5 ∨ k = 6 then some (1, 4, 4)
  else if k = 7 then some (1, 8, 0)
  else if k = 8 then some (1, 1, 0) else none
def validO (o : OpV) : Bool :=
  match sizesF o.kind with
  | none => false
  | some (l, m, f) => decide (l ≤ o.old.length ∧ o.old.length ≤ m ∧ o.new.length ≤ f)

theorem validO_t {o : OpV} {l m f : Nat} (h : sizesF o.kind = some (l, m, f)) (h2 : l ≤ o.old.length ∧ o.old.length ≤ m ∧ o.new.length ≤ f) : validO o = true := by
  unfold validO; rw [h]; simpa using h2
theorem validO_f {o : OpV} {l m f : Nat} (h : sizesF o.kind = some (l, m, f)) (h2 : ¬ (l ≤ o.old.length ∧ o.old.length ≤ m ∧ o.new.length ≤ f)) : ¬ validO o = true := by
  unfold validO; rw [h]; simpa using h2
theorem validO_n {o : OpV} (h : sizesF o.kind = none) : ¬ validO o = true := by
  unfold validO; rw [h]; simp
def szV (k : Int) : Value :=
  match sizesF k with
  | none => .tuple #[.int .i64 0, .int .i64 0, .int .i64 0, .bool false]
  | some (l, m, f) => .tuple #[.int .i64 (l : Int), .int .i64 (m : Int), .int .i64 (f : Int), .bool true]

def lowerF (x : UInt8) : UInt8 := if 65 ≤ x.toNat ∧ x.toNat ≤ 90 then x + 32 else x
theorem lowerF_t {x : UInt8} (h : 65 ≤ x.toNat ∧ x.toNat ≤ 90) : (lowerF x).toNat = x.toNat + 32 := by
  unfold lowerF; rw [if_pos h, UInt8.toNat_add]; simp; omega
theorem lowerF_f {x : UInt8} (h : ¬ (65 ≤ x.toNat ∧ x.toNat ≤ 90)) : lowerF x = x := if_neg h
def upperF (x : UInt8) : UInt8 := if 97 ≤ x.toNat ∧ x.toNat ≤ 122 then x - 32 else x
theorem upperF_t {x : UInt8} (h : 97 ≤ x.toNat ∧ x.toNat ≤ 122) : (upperF x).toNat = x.toNat - 32 := by
  unfold upperF; rw [if_pos h, UInt8.toNat_sub_of_le _ _ (by show 32 ≤ x.toNat; omega)]; rfl
theorem upperF_f {x : UInt8} (h : ¬ (97 ≤ x.toNat ∧ x.toNat ≤ 122)) : upperF x = x := if_neg h
def hexL (y : UInt8) : Option UInt8 :=
  if 48 ≤ y.toNat ∧ y.toNat ≤ 57 then some (y - 48) else if 97 ≤ y.toNat ∧ y.toNat ≤ 102 then some (y - 87) else none
theorem hexL_1 {y : UInt8} (h : 48 ≤ y.toNat ∧ y.toNat ≤ 57) : hexL y = some (y - 48) ∧ (y - 48).toNat = y.toNat - 48 :=
  ⟨if_pos h, UInt8.toNat_sub_of_le _ _ (by show 48 ≤ y.toNat; omega)⟩
theorem hexL_2 {y : UInt8} (h : 97 ≤ y.toNat ∧ y.toNat ≤ 102) : hexL y = some (y - 87) ∧ (y - 87).toNat = y.toNat - 87 :=
  ⟨by unfold hexL; rw [if_neg (by omega), if_pos h], UInt8.toNat_sub_of_le _ _ (by show 87 ≤ y.toNat; omega)⟩
theorem hexL_3 {y : UInt8} (h : ¬ (48 ≤ y.toNat ∧ y.toNat ≤ 57)) (h2 : ¬ (97 ≤ y.toNat ∧ y.toNat ≤ 102)) : hexL y = none := by
  unfold hexL; rw [if_neg h, if_neg h2]
def hexF (x : UInt8) : Option UInt8 := hexL (lowerF x)

/-- The byte of the two digits at the head. -/
def pairF : List UInt8 → Option UInt8
  | a :: b :: _ =>
    match hexF a, hexF b with
    | some h, some l => some (16 * h + l)
    | _, _ => none
  | _ => none
/-- Percent decoding; the first number counts the bytes that are skipped. -/
def percF (lax : Bool) : Nat → List UInt8 → Option (List UInt8)
  | _, [] => some []
  | s + 1, _ :: t => percF lax s t
  | 0, x :: t =>
    if x = 37 then
      match pairF t with
      | some y => (percF lax 2 t).map (y :: ·)
      | none => if lax then (percF lax 0 t).map (x :: ·) else none
    else (percF lax 0 t).map (x :: ·)
/-- Replacement of at most m occurrences; the second number counts the bytes that are skipped. -/
def repF (old new : List UInt8) : Nat → Nat → List UInt8 → List UInt8
  | _, _, [] => []
  | m, s + 1, _ :: t => repF old new m s t
  | m, 0, x :: t => if 0 < m ∧ old.isPrefixOf (x :: t) = true then new ++ repF old new (m - 1) (old.length - 1) t else x :: repF old new m 0 t
/-- Squeezing of c; the flag tells that the byte ahead was c. -/
def sqF (c : UInt8) : Bool → List UInt8 → List UInt8
  | _, [] => []
  | p, x :: t => if x = c then (if p then sqF c true t else x :: sqF c true t) else x :: sqF c false t

def doF (o : OpV) (b : List UInt8) : Option (List UInt8) :=
  if validO o = false then none
  else if o.kind = 1 then some (b.map lowerF)
  else if o.kind = 2 then some (b.map upperF)
  else if o.kind = 3 then percF false 0 b
  else if o.kind = 4 then percF true 0 b
  else if o.kind = 5 then some (repF o.old o.new 1 0 b)
  else if o.kind = 6 then some (repF o.old o.new b.length 0 b)
  else if o.kind = 7 then some (b.filter fun x => !o.old.contains x)
  else some (sqF (o.old.headD 0) false b)

/-! ### replacement by the first occurrence -/
theorem repF_skip (old new : List UInt8) : ∀ (s m : Nat) (l : List UInt8), repF old new m s l = repF old new m 0 (l.drop s)
  | 0, _, l => by simp
  | s + 1, m, [] => by simp [repF]
  | s + 1, m, _ :: t => by rw [repF, repF_skip old new s m t]; rfl
theorem repF_zero (old new : List UInt8) : ∀ l : List UInt8, repF old new 0 0 l = l
  | [] => rfl
  | x :: t => by rw [repF, if_neg (by simp), repF_zero old new t]
def idxF (old : List UInt8) : List UInt8 → Option Nat
  | [] => if old = [] then some 0 else none
  | x :: t => if old.isPrefixOf (x :: t) = true then some 0 else (idxF old t).map (· + 1)
theorem repF_none (old new : List UInt8) : ∀ (m : Nat) (l : List UInt8), idxF old l = none → repF old new m 0 l = l
  | _, [], _ => rfl
  | m, x :: t, h => by
    unfold idxF at h
    split at h
    · cases h
    · rename_i hp
      rw [repF, if_neg (fun h2 => hp h2.2), repF_none old new m t (by simpa using h)]
theorem repF_some (old new : List UInt8) (ho : old ≠ []) : ∀ (m : Nat) (l : List UInt8) (i : Nat), 0 < m → idxF old l = some i →
    repF old new m 0 l = l.take i ++ (new ++ repF old new (m - 1) 0 (l.drop (i + old.length))) ∧ i + old.length ≤ l.length
  | _, [], i, _, h => by
    unfold idxF at h; rw [if_neg ho] at h; cases h
  | m, x :: t, i, hm, h => by
    unfold idxF at h
    split at h
    · rename_i hp
      obtain rfl : 0 = i := by simpa using h
      obtain ⟨r, hr⟩ := List.isPrefixOf_iff_prefix.1 hp
      cases old with
      | nil => exact absurd rfl ho
      | cons y os =>
        refine ⟨?_, by rw [← hr]; simp⟩
        rw [repF, if_pos ⟨hm, hp⟩, repF_skip]
        simp
    · rename_i hp
      cases hj : idxF old t with
      | none => rw [hj] at h; cases h
      | some j =>
        rw [hj] at h
        obtain rfl : j + 1 = i := by simpa using h
        obtain ⟨h1, h2⟩ := repF_some old new ho m t j hm hj
        rw [repF, if_neg (fun h2 => hp h2.2), h1]
        refine ⟨by rw [show j + 1 + old.length = (j + old.length) + 1 by omega]; simp, by simp; omega⟩
/-! ### squeezing, from the left -/
theorem sqF_snoc (c x : UInt8) : ∀ (p : Bool) (l : List UInt8), sqF c p (l ++ [x]) = sqF c p l ++ (if x = c ∧ (if l = [] then p = true else l.getLast? = some c) then [] else [x])
  | p, [] => by
    by_cases hx : x = c
    · cases p <;> simp [sqF, hx]
    · simp [sqF, hx]
  | p, y :: t => by
    have ih := fun q => sqF_snoc c x q t
    have e : (y :: t ++ [x]) = y :: (t ++ [x]) := rfl
    rw [e]
    have hl : (if t = [] then (decide (y = c)) = true else t.getLast? = some c) ↔ (y :: t).getLast? = some c := by
      cases t with
      | nil => simp
      | cons z t => simp [List.getLast?_cons_cons]
    by_cases hy : y = c
    · cases p <;> simp [sqF, hy, ih] at hl ⊢ <;> simp [hl]
    · simp [sqF, hy, ih] at hl ⊢
      simp [hl]

/-! ### lists, an element further -/
theorem take_map_succ (l : List UInt8) (k : Nat) (h : k < l.length) : (l.take (k + 1)).map byteV = (l.take k).map byteV ++ [.int .u8 (l[k].toNat : Int)] := by
  rw [List.take_add_one, List.getElem?_eq_getElem h, List.map_append]; rfl
theorem foldl_take_succ {α β : Type} (f : β → α → β) (z : β) (l : List α) (k : Nat) (h : k < l.length) : (l.take (k + 1)).foldl f z = f ((l.take k).foldl f z) l[k] := by
  rw [List.take_add_one, List.getElem?_eq_getElem h, List.foldl_append]; rfl
/-- The steps of the operations that go byte by byte. -/
def lowS (out : List UInt8) (x : UInt8) : List UInt8 := out ++ [lowerF x]
def upS (out : List UInt8) (x : UInt8) : List UInt8 := out ++ [upperF x]
def dropS (old out : List UInt8) (x : UInt8) : List UInt8 := if old.contains x = true then out else out ++ [x]
def sqS (c : UInt8) (out : List UInt8) (x : UInt8) : List UInt8 := if x = c ∧ out.getLast? = some c then out else out ++ [x]
theorem low_fold (b : List UInt8) : ∀ out : List UInt8, b.foldl lowS out = out ++ b.map lowerF := by
  induction b with
  | nil => simp
  | cons x t ih => intro out; rw [List.foldl_cons, ih, lowS]; simp
theorem up_fold (b : List UInt8) : ∀ out : List UInt8, b.foldl upS out = out ++ b.map upperF := by
  induction b with
  | nil => simp
  | cons x t ih => intro out; rw [List.foldl_cons, ih, upS]; simp
theorem drop_fold (old b : List UInt8) : ∀ out : List UInt8, b.foldl (dropS old) out = out ++ b.filter fun x => !old.contains x := by
  induction b with
  | nil => simp
  | cons x t ih =>
    intro out; rw [List.foldl_cons, ih, dropS]
    by_cases h : old.contains x = true
    · rw [if_pos h, List.filter_cons_of_neg (by simpa using h)]
    · rw [if_neg h, List.filter_cons_of_pos (by simpa using h)]; simp
theorem sq_fold (c : UInt8) (b : List UInt8) : ∀ (out : List UInt8), b.foldl (sqS c) out = out ++ sqF c (out.getLast? == some c) b := by
  induction b with
  | nil => simp [sqF]
  | cons x t ih =>
    intro out; rw [List.foldl_cons, ih, sqS]
    by_cases hx : x = c
    · subst hx
      by_cases ho : out.getLast? = some x
      · simp [ho, sqF]
      · have : (out.getLast? == some x) = false := by simpa using ho
        simp [ho, sqF]
    · have h2 : ¬ (x = c ∧ out.getLast? = some c) := fun h => hx h.1
      have h3 : (x == c) = false := by simpa using hx
      rw [if_neg h2]
      simp [sqF, hx, h3]
theorem fold_len {f : List UInt8 → UInt8 → List UInt8} (hf : ∀ out x, (f out x).length ≤ out.length + 1) (b : List UInt8) : ∀ out : List UInt8, (b.foldl f out).length ≤ out.length + b.length := by
  induction b with
  | nil => simp
  | cons x t ih => intro out; have := ih (f out x); have := hf out x; simp only [List.foldl_cons, List.length_cons]; omega
theorem sq_last {out : List UInt8} {c : UInt8} {h : out.length - 1 < out.length} : out[out.length - 1] = c ↔ out.getLast? = some c := by
  rw [List.getLast?_eq_getElem?, List.getElem?_eq_getElem h]; simp
theorem u8i {a b : UInt8} (h : (a.toNat : Int) = (b.toNat : Int)) : a = b := UInt8.toNat_inj.1 (by omega)

/-! ### percent decoding, a step -/
theorem cons_of {l : List UInt8} (h : 0 < l.length) : ∃ a t, l = a :: t := by cases l with | nil => simp at h | cons a t => exact ⟨a, t, rfl⟩
theorem cons2_of {l : List UInt8} (h : 2 ≤ l.length) : ∃ a b t, l = a :: b :: t := by
  match l, h with
  | a :: b :: t, _ => exact ⟨a, b, t, rfl⟩
theorem is37 {a : UInt8} (h : (a.toNat : Int) = 37) : a = 37 := UInt8.toNat_inj.1 (by show a.toNat = 37; omega)
theorem pairF_short {t : List UInt8} (h : t.length < 2) : pairF t = none := by
  match t, h with
  | [], _ => rfl
  | [_], _ => rfl
  | _ :: _ :: _, h => simp only [List.length_cons] at h; omega
theorem pairF_1 {a b : UInt8} {t : List UInt8} (h : (hexF a).isSome = false) : pairF (a :: b :: t) = none := by
  have : hexF a = none := by simpa using h
  simp [pairF, this]
theorem pairF_2 {a b : UInt8} {t : List UInt8} (h : (hexF b).isSome = false) : pairF (a :: b :: t) = none := by
  have : hexF b = none := by simpa using h
  show (match hexF a, hexF b with | some h, some l => some (16 * h + l) | _, _ => none) = none
  rw [this]; cases hexF a <;> rfl
theorem perc_pair {lax : Bool} {a x y : UInt8} {t : List UInt8} (ha : (a.toNat : Int) = 37) (hx : (hexF x).isSome = true) (hy : (hexF y).isSome = true) :
    percF lax 0 (a :: x :: y :: t) = (percF lax 0 t).map ((16 * (hexF x).getD 0 + (hexF y).getD 0) :: ·) := by
  obtain ⟨p, hp⟩ := Option.isSome_iff_exists.1 hx
  obtain ⟨q, hq⟩ := Option.isSome_iff_exists.1 hy
  obtain rfl := is37 ha
  simp [percF, pairF, hp, hq]
theorem perc_other {lax : Bool} {a : UInt8} {t : List UInt8} (ha : ¬ (a.toNat : Int) = 37) : percF lax 0 (a :: t) = (percF lax 0 t).map (a :: ·) := by
  rw [percF, if_neg (fun h => ha (by rw [h]; rfl))]
theorem perc_none_t {a : UInt8} {t : List UInt8} (ha : (a.toNat : Int) = 37) (h : pairF t = none) : percF true 0 (a :: t) = (percF true 0 t).map (a :: ·) := by
  rw [percF, if_pos (is37 ha), h]; rfl
theorem perc_none_f {a : UInt8} {t : List UInt8} (ha : (a.toNat : Int) = 37) (h : pairF t = none) : percF false 0 (a :: t) = none := by
  rw [percF, if_pos (is37 ha), h]; rfl
theorem u8_16 (h l : UInt8) : IntKind.u8.wrap (IntKind.u8.wrap (16 * (h.toNat : Int)) + (l.toNat : Int)) = ((16 * h + l).toNat : Int) := by
  rw [IntKind.wrap_u8, IntKind.wrap_u8, UInt8.toNat_add, UInt8.toNat_mul, show (16 : UInt8).toNat = 16 from rfl]
  omega
theorem tk1 (a : UInt8) (t : List UInt8) : List.take ((a :: t).length - 1) (List.drop 1 (a :: t)) = t := by simp
theorem tk3 (a x y : UInt8) (t : List UInt8) : List.take ((a :: x :: y :: t).length - 3) (List.drop 3 (a :: x :: y :: t)) = t := by simp
theorem tk_drop (b : List UInt8) (p : Nat) : List.take (b.length - p) (List.drop p b) = b.drop p := List.take_of_length_le (by simp)
/-- Where the first occurrence begins, or -1. -/
def idxI (old l : List UInt8) : Int := match idxF old l with | some i => (i : Int) | none => -1
theorem idxI_some {old l : List UInt8} (h : ¬ idxI old l < 0) : ∃ i, idxF old l = some i ∧ idxI old l = (i : Int) := by
  unfold idxI at *
  cases hj : idxF old l with
  | none => rw [hj] at h; exact absurd (by decide) h
  | some i => exact ⟨i, rfl, rfl⟩
theorem idxI_none {old l : List UInt8} (h : idxI old l < 0) : idxF old l = none := by
  unfold idxI at h
  cases hj : idxF old l with
  | none => rfl
  | some i => rw [hj] at h; simp only at h; omega

/-! ### sets of bytes: what the code reckons, word by word -/
def tab64 : List Nat := [0, 1, 56, 2, 57, 49, 28, 3, 61, 58, 42, 50, 38, 29, 17, 4, 62, 47, 59, 36, 45, 43, 51, 22, 53, 39, 33, 30, 24, 18, 12, 5, 63, 55, 48, 27, 60, 41, 37, 16, 46, 35, 44, 21, 52, 32, 23, 11, 54, 26, 40, 15, 34, 20, 31, 10, 25, 14, 19, 9, 13, 8, 7, 6]
/-- The library's table lies at its variable. -/
def Tab (G : Ghost) : Prop := ∀ i, i < 64 → gcell G ⟨1, i, none⟩ = some (.int .u8 ((tab64.getD i 0 : Nat) : Int))
theorem Tab.mono {G G' : Ghost} (h : G.le G') (ht : Tab G) : Tab G' := fun i hi => gcell_mono h (ht i hi)
theorem tab_le (i : Nat) : tab64.getD i 0 ≤ 63 := by
  rcases Nat.lt_or_ge i 64 with h | h
  · exact (by decide : ∀ i < 64, tab64.getD i 0 ≤ 63) i h
  · rw [List.getD_eq_getElem?_getD, List.getElem?_eq_none (by exact h)]; decide
def tzI (x : Nat) : Nat := mul64 (and64 x (sub64 0 x)) 285870213051353865 / 2 ^ 58
theorem tzI_lt (x : Nat) : tzI x < 64 := by
  unfold tzI mul64 W64; omega
def tzF (x : Nat) : Nat := if x = 0 then 64 else tab64.getD (tzI x) 0
theorem tzF_le (x : Nat) : tzF x ≤ 64 := by
  unfold tzF; split
  · omega
  · have := tab_le (tzI x); omega
def pop1 (x : Nat) : Nat := add64 (and64 (x / 2 ^ 1) 6148914691236517205) (and64 x 6148914691236517205)
def pop2 (x : Nat) : Nat := add64 (and64 (x / 2 ^ 2) 3689348814741910323) (and64 x 3689348814741910323)
def pop3 (x : Nat) : Nat := and64 (add64 (x / 2 ^ 4) x) 1085102592571150095
def popS (k x : Nat) : Nat := add64 x (x / 2 ^ k)
def pop6 (x : Nat) : Nat := popS 32 (popS 16 (popS 8 (pop3 (pop2 (pop1 x)))))
def popF (x : Nat) : Nat := and64 (pop6 x) 127
theorem and64_le (a b : Nat) : and64 a b ≤ b := Nat.le_trans Nat.and_le_right (Nat.mod_le _ _)
theorem popS_le (k x : Nat) : popS k x ≤ 2 * x := by
  unfold popS add64
  have h1 := Nat.mod_le (x + x / 2 ^ k) W64
  have h2 : x / 2 ^ k ≤ x := Nat.div_le_self _ _
  omega
theorem pop6_lt (x : Nat) : pop6 x < 9223372036854775808 := by
  unfold pop6
  have h3 : pop3 (pop2 (pop1 x)) ≤ 1085102592571150095 := and64_le _ _
  generalize pop3 (pop2 (pop1 x)) = y at *
  have h4 : popS 8 y ≤ y + y / 256 := Nat.mod_le _ _
  have h5 : popS 16 (popS 8 y) ≤ popS 8 y + popS 8 y / 65536 := Nat.mod_le _ _
  have h6 : popS 32 (popS 16 (popS 8 y)) ≤ popS 16 (popS 8 y) + popS 16 (popS 8 y) / 4294967296 := Nat.mod_le _ _
  omega
theorem popF_le (x : Nat) : popF x ≤ 127 := and64_le _ _
theorem and127 (n : Nat) : bitsI .and .i64 (n : Int) 127 = ((and64 n 127 : Nat) : Int) := by
  show IntKind.i64.wrap ((BitVec.ofInt 64 (n : Int) &&& BitVec.ofInt 64 ((127 : Nat) : Int)).toNat : Int) = _
  rw [BitVec.toNat_and, ofInt64, ofInt64]
  have h := and64_le n 127
  unfold and64 at *
  rw [wrap64_eq (by omega)]
def sizeF (c : List Nat) : Nat := c.foldl (fun s w => s + popF w) 0
theorem sizeF_snoc (c : List Nat) (k : Nat) (h : k < c.length) : sizeF (c.take (k + 1)) = sizeF (c.take k) + popF c[k] := by
  unfold sizeF; rw [List.take_add_one, List.getElem?_eq_getElem h, List.foldl_append]; rfl
theorem sizeF_le : ∀ (c : List Nat), sizeF c ≤ 127 * c.length := by
  have key : ∀ (c : List Nat) (s : Nat), c.foldl (fun s w => s + popF w) s ≤ s + 127 * c.length := by
    intro c
    induction c with
    | nil => simp
    | cons w t ih => intro s; have := ih (s + popF w); have := popF_le w; simp only [List.foldl_cons, List.length_cons]; omega
  intro c; have := key c 0; unfold sizeF; omega
def addF (c : List Nat) (x : UInt8) : List Nat := c.set (x.toNat / 64) (or64 (c.getD (x.toNat / 64) 0) (2 ^ (x.toNat % 64)))
theorem addF_len (c : List Nat) (x : UInt8) : (addF c x).length = c.length := by simp [addF]
def ofF (l : List UInt8) : List Nat := l.foldl addF [0, 0, 0, 0]
theorem ofF_len (l : List UInt8) : (ofF l).length = 4 := by
  have key : ∀ (l : List UInt8) (c : List Nat), (l.foldl addF c).length = c.length := by
    intro l
    induction l with
    | nil => simp
    | cons x t ih => intro c; rw [List.foldl_cons, ih, addF_len]
  exact key l _
def notF (c : List Nat) : List Nat := List.zipWith (fun x _ => xor64 18446744073709551615 x) c c
def interF (a b : List Nat) : List Nat := List.zipWith and64 a b
def unionF (a b : List Nat) : List Nat := List.zipWith or64 a b
def hasF (c : List Nat) (x : UInt8) : Bool := decide (and64 (c.getD (x.toNat / 64) 0) (2 ^ (x.toNat % 64)) ≠ 0)
theorem map_at (c : List Nat) (k : Nat) (h : k < c.length) : (c.map u64V)[k]? = some (u64V c[k]) := by
  rw [List.getElem?_map, List.getElem?_eq_getElem h]; rfl
theorem zip_step (op : Nat → Nat → Nat) (a b : List Nat) (k : Nat) (h : k < a.length) (h2 : k < b.length) (h3 : k < 4) :
    (((List.zipWith op a b).take k ++ List.replicate (4 - k) 0).map u64V).set k (u64V (op a[k] b[k])) = ((List.zipWith op a b).take (k + 1) ++ List.replicate (4 - (k + 1)) 0).map u64V := by
  obtain ⟨j, hj⟩ : ∃ j, 4 - k = j + 1 := ⟨4 - k - 1, by omega⟩
  have hl : ((List.zipWith op a b).take k).length = k := by rw [List.length_take, List.length_zipWith]; omega
  rw [← List.map_set, List.set_append_right _ _ (by omega), hl, Nat.sub_self, hj, show 4 - (k + 1) = j by omega, List.replicate_succ, List.set_cons_zero, List.take_add_one, List.getElem?_eq_getElem (by rw [List.length_zipWith]; omega)]
  simp
theorem u8wrap (n : Nat) : IntKind.u8.wrap (n : Int) = ((UInt8.ofNat n).toNat : Int) := by
  rw [IntKind.wrap_u8]; simp
theorem has_iff (c : List Nat) (x : UInt8) : cmpP .neq ((and64 (c.getD (x.toNat / 64) 0) (2 ^ (x.toNat % 64)) : Nat) : Int) 0 ↔ hasF c x = true := by
  unfold hasF; rw [decide_eq_true_iff]; show _ ≠ _ ↔ _; omega
theorem notF_len {c : List Nat} (h : c.length = 4) : (notF c).length = 4 := by unfold notF; rw [List.length_zipWith]; omega
theorem interF_len {a b : List Nat} (h : a.length = 4) (h2 : b.length = 4) : (interF a b).length = 4 := by unfold interF; rw [List.length_zipWith]; omega
theorem unionF_len {a b : List Nat} (h : a.length = 4) (h2 : b.length = 4) : (unionF a b).length = 4 := by unfold unionF; rw [List.length_zipWith]; omega
def bytesFrom (lo n : Nat) : List UInt8 := (List.range n).map fun i => UInt8.ofNat (lo + i)
theorem bytesFrom_succ (lo n : Nat) : ofF (bytesFrom lo (n + 1)) = addF (ofF (bytesFrom lo n)) (UInt8.ofNat (lo + n)) := by
  unfold ofF bytesFrom; rw [List.range_succ, List.map_append, List.foldl_append]; rfl
/-- The members of a word, by the code's steps. -/
def memF (i : Nat) : Nat → Nat → List UInt8
  | 0, _ => []
  | f + 1, w => if w = 0 then [] else UInt8.ofNat (64 * i + tzF w) :: memF i f (and64 w (sub64 w 1))
def bytesG : Nat → List Nat → List UInt8
  | _, [] => []
  | i, w :: t => memF i w w ++ bytesG (i + 1) t
def bytesF (c : List Nat) : List UInt8 := bytesG 0 c
theorem sub_one {w : Nat} (h0 : w ≠ 0) (h : w < W64) : sub64 w 1 = w - 1 := by
  unfold sub64
  show (w + (W64 - 1 % W64)) % W64 = w - 1
  rw [show w + (W64 - 1 % W64) = (w - 1) + W64 by unfold W64 at *; omega, Nat.add_mod_right, Nat.mod_eq_of_lt (by omega)]
theorem clear_low {w j : Nat} (h0 : w ≠ 0) (hd : 2 ^ j ∣ w) : 2 ^ (j + 1) ∣ w &&& (w - 1) := by
  rw [Nat.dvd_iff_mod_eq_zero, Nat.and_mod_two_pow]
  obtain ⟨m, rfl⟩ := hd
  have hp : 0 < 2 ^ j := Nat.pow_pos (by decide)
  rcases Nat.mod_two_eq_zero_or_one m with h | h
  · obtain ⟨q, rfl⟩ : ∃ q, m = 2 * q := ⟨m / 2, by omega⟩
    rw [show 2 ^ j * (2 * q) = 2 ^ (j + 1) * q by rw [Nat.pow_succ, Nat.mul_assoc], Nat.mul_mod_right, Nat.zero_and]
  · obtain ⟨q, rfl⟩ : ∃ q, m = 2 * q + 1 := ⟨m / 2, by omega⟩
    have e1 : 2 ^ j * (2 * q + 1) = 2 ^ (j + 1) * q + 2 ^ j := by rw [Nat.mul_add, Nat.mul_one, Nat.pow_succ, Nat.mul_assoc]
    have e2 : 2 ^ j * (2 * q + 1) - 1 = 2 ^ (j + 1) * q + (2 ^ j - 1) := by rw [e1]; omega
    have hlt : 2 ^ j < 2 ^ (j + 1) := by rw [Nat.pow_succ]; omega
    rw [e2, e1, Nat.mul_add_mod, Nat.mul_add_mod, Nat.mod_eq_of_lt hlt, Nat.mod_eq_of_lt (by omega : 2 ^ j - 1 < 2 ^ (j + 1)), Nat.and_two_pow_sub_one_eq_mod, Nat.mod_self]
theorem memF_len (i : Nat) : ∀ (f w j : Nat), w < W64 → j ≤ 64 → 2 ^ j ∣ w → (memF i f w).length ≤ 64 - j
  | 0, _, _, _, _, _ => by simp [memF]
  | f + 1, w, j, hw, hj, hd => by
    rw [memF]
    by_cases h0 : w = 0
    · rw [if_pos h0]; simp
    · rw [if_neg h0, List.length_cons]
      have hj2 : j ≠ 64 := fun h => by
        subst h
        have := Nat.le_of_dvd (Nat.pos_of_ne_zero h0) hd
        unfold W64 at hw; omega
      have e : and64 w (sub64 w 1) = w &&& (w - 1) := by
        rw [sub_one h0 hw]; unfold and64; rw [Nat.mod_eq_of_lt hw, Nat.mod_eq_of_lt (by omega)]
      have := memF_len i f (and64 w (sub64 w 1)) (j + 1) (and64_lt _ _) (by omega) (by rw [e]; exact clear_low h0 hd)
      omega
theorem bytesG_len : ∀ (c : List Nat) (i : Nat), (∀ w ∈ c, w < W64) → (bytesG i c).length ≤ 64 * c.length
  | [], _, _ => by simp [bytesG]
  | w :: t, i, h => by
    have h1 := memF_len i w w 0 (h w (by simp)) (by omega) (by simp)
    have h2 := bytesG_len t (i + 1) fun x hx => h x (by simp [hx])
    simp only [bytesG, List.length_append, List.length_cons]; omega
theorem bytesF_len {c : List Nat} (h : c.length = 4) (hw : ∀ w ∈ c, w < W64) : (bytesF c).length ≤ 256 := by
  have := bytesG_len c 0 hw; unfold bytesF; omega
theorem mem_step {L rest : List UInt8} {n : Nat} {a : UInt8} (h : L.drop n = a :: rest) : ∃ hn : n < L.length, L[n] = a ∧ L.drop (n + 1) = rest := by
  have hn : n < L.length := by
    rcases Nat.lt_or_ge n L.length with h' | h'
    · exact h'
    · rw [List.drop_eq_nil_of_le h'] at h; cases h
  rw [List.drop_eq_getElem_cons hn] at h
  injection h with h1 h2
  exact ⟨hn, h1, h2⟩
/-- A set of bytes at a block that no longer changes. -/
def ClsAt (G : Ghost) (b : Nat) (c : List Nat) : Prop := ∀ (i : Nat) (v : Value), (c.map u64V)[i]? = some v → gcell G ⟨b, i, none⟩ = some v
theorem ClsAt.mono {G G' : Ghost} (h : G.le G') {b : Nat} {c : List Nat} (hc : ClsAt G b c) : ClsAt G' b c := fun i v hv => gcell_mono h (hc i v hv)
theorem ClsAt.whole {G : Ghost} {b : Nat} {c : List Nat} (hc : ClsAt G b c) : ∀ (j : Nat) (u : Value), (c.map u64V)[j]? = some u → gcell G ((⟨b, 0, none⟩ : Addr).add j) = some u := fun j u hj => by
  have hadd : ((⟨b, 0, none⟩ : Addr).add j) = ⟨b, j, none⟩ := by
    unfold Addr.add; split
    · rename_i h0; simp [h0]
    · simp
  rw [hadd]; exact hc j u hj
theorem memF_zero (i f : Nat) : memF i f 0 = [] := by cases f <;> simp [memF]

/-! ### transducers -/
abbrev Pc := Bool × UInt8
abbrev Mv := Int × List Pc
structure Tr where
  classes : List (List Nat)
  moves : List (List Mv)
  final : List Bool
  ends : List (List UInt8)
def PcR (_ : Ghost) (c : List Value) (p : Pc) : Prop := c = [.bool p.1, .int .u8 (p.2.toNat : Int)]
def MvR (G : Ghost) (c : List Value) (m : Mv) : Prop := ∃ v, c = [.int .i64 m.1, v] ∧ LstR 2 PcR G v m.2
def RowR (G : Ghost) (c : List Value) (r : List Mv) : Prop := ∃ v, c = [v] ∧ LstR 2 MvR G v r
def BoR (_ : Ghost) (c : List Value) (b : Bool) : Prop := c = [.bool b]
def ByR (G : Ghost) (c : List Value) (b : List UInt8) : Prop := ∃ v, c = [v] ∧ Bytes G v b
def ClR (_ : Ghost) (c : List Value) (w : List Nat) : Prop := c = w.map u64V ∧ w.length = 4 ∧ ∀ x ∈ w, x < W64
theorem PcR.mono {G G' : Ghost} (h : G.le G') {v : Value} {l : List Pc} (hl : LstR 2 PcR G v l) : LstR 2 PcR G' v l := LstR.mono (R := PcR) (G := G) (G' := G') (fun _ _ h => h) h hl
theorem MvR.mono {G G' : Ghost} (h : G.le G') {v : Value} {l : List Mv} (hl : LstR 2 MvR G v l) : LstR 2 MvR G' v l :=
  LstR.mono (fun _ _ ⟨v, e, hm⟩ => ⟨v, e, PcR.mono h hm⟩) h hl
theorem RowR.mono {G G' : Ghost} (h : G.le G') {v : Value} {l : List (List Mv)} (hl : LstR 1 RowR G v l) : LstR 1 RowR G' v l :=
  LstR.mono (fun _ _ ⟨v, e, hm⟩ => ⟨v, e, MvR.mono h hm⟩) h hl
theorem BoR.mono {G G' : Ghost} (h : G.le G') {v : Value} {l : List Bool} (hl : LstR 1 BoR G v l) : LstR 1 BoR G' v l := LstR.mono (R := BoR) (G := G) (G' := G') (fun _ _ h => h) h hl
theorem ByR.mono {G G' : Ghost} (h : G.le G') {v : Value} {l : List (List UInt8)} (hl : LstR 1 ByR G v l) : LstR 1 ByR G' v l :=
  LstR.mono (fun _ _ ⟨v, e, hm⟩ => ⟨v, e, hm.mono h⟩) h hl
theorem ClR.mono {G G' : Ghost} (h : G.le G') {v : Value} {l : List (List Nat)} (hl : LstR 4 ClR G v l) : LstR 4 ClR G' v l := LstR.mono (R := ClR) (G := G) (G' := G') (fun _ _ h => h) h hl
def Pcs (G : Ghost) (v : Value) (l : List Pc) : Prop := LstR 2 PcR G v l
def Mvs (G : Ghost) (v : Value) (l : List Mv) : Prop := LstR 2 MvR G v l
def Rows_ (G : Ghost) (v : Value) (l : List (List Mv)) : Prop := LstR 1 RowR G v l
def Bos (G : Ghost) (v : Value) (l : List Bool) : Prop := LstR 1 BoR G v l
def Bys (G : Ghost) (v : Value) (l : List (List UInt8)) : Prop := LstR 1 ByR G v l
def Cls (G : Ghost) (v : Value) (l : List (List Nat)) : Prop := LstR 4 ClR G v l
theorem Pcs.mono {G G' : Ghost} (h : G.le G') {v : Value} {l : List Pc} (hl : Pcs G v l) : Pcs G' v l := PcR.mono h hl
theorem Mvs.mono {G G' : Ghost} (h : G.le G') {v : Value} {l : List Mv} (hl : Mvs G v l) : Mvs G' v l := MvR.mono h hl
theorem Rows_.mono {G G' : Ghost} (h : G.le G') {v : Value} {l : List (List Mv)} (hl : Rows_ G v l) : Rows_ G' v l := RowR.mono h hl
theorem Bos.mono {G G' : Ghost} (h : G.le G') {v : Value} {l : List Bool} (hl : Bos G v l) : Bos G' v l := BoR.mono h hl
theorem Bys.mono {G G' : Ghost} (h : G.le G') {v : Value} {l : List (List UInt8)} (hl : Bys G v l) : Bys G' v l := ByR.mono h hl
theorem Cls.mono {G G' : Ghost} (h : G.le G') {v : Value} {l : List (List Nat)} (hl : Cls G v l) : Cls G' v l := ClR.mono h hl
def TrR (G : Ghost) (v : Value) (t : Tr) : Prop := ∃ v1 v2 v3 v4, v = .agg #[v1, v2, v3, v4] ∧ Cls G v1 t.classes ∧ Rows_ G v2 t.moves ∧ Bos G v3 t.final ∧ Bys G v4 t.ends
theorem u4 {G : Ghost} {p : Addr} {W : List Nat} {c : List Value} (hp : ∀ (j : Nat) (u : Value), c[j]? = some u → gcell G (p.add j) = some u) (hc : ClR G c W) : ∀ (j : Nat) (u : Value), (W.map u64V)[j]? = some u → gcell G (p.add j) = some u := hc.1 ▸ hp

def badP (p : Pc) : Bool := p.1 && decide (p.2 ≠ 0)
def badM (n : Int) (m : Mv) : Bool := decide (m.1 < -1) || decide (n ≤ m.1) || decide (8 < m.2.length) || (decide (m.1 < 0) && decide (0 < m.2.length)) || m.2.any badP
def partG : List (List Nat) → List Nat → Bool
  | [], all => decide (sizeF all = 256)
  | c :: t, all => if sizeF c = 0 ∨ 0 < sizeF (interF all c) then false else partG t (unionF all c)
def partF (l : List (List Nat)) : Bool := partG l [0, 0, 0, 0]
def rowsOk (n k : Nat) : List (List Mv) → List Bool → List (List UInt8) → Bool
  | [], _, _ => true
  | r :: rs, f, e => decide (r.length = k) && decide ((e.headD []).length ≤ 8) && (f.headD false || decide ((e.headD []).length = 0)) && !(r.any (badM (n : Int))) && rowsOk n k rs f.tail e.tail
def validT (t : Tr) : Bool :=
  decide (1 ≤ t.moves.length) && decide (t.moves.length ≤ 64) && decide (t.final.length = t.moves.length) && decide (t.ends.length = t.moves.length) && decide (t.classes.length ≤ 256) && partF t.classes && rowsOk t.moves.length t.classes.length t.moves t.final t.ends
def writF (l : List Pc) (b : UInt8) : List UInt8 := l.map fun p => if p.1 then b else p.2
def cellG : Nat → List (List Nat) → List Int → List Int
  | _, [], a => a
  | k, c :: t, a => cellG (k + 1) t ((bytesF c).foldl (fun a b => a.set b.toNat (k : Int)) a)
def cellF (l : List (List Nat)) : List Int := cellG 0 l (List.replicate 256 0)
def runG (t : Tr) (cell : List Int) : Nat → List UInt8 → Option (Nat × List UInt8)
  | s, [] => some (s, [])
  | s, x :: b =>
    let m := ((t.moves.getD s []).getD (cell.getD x.toNat 0).toNat (0, []))
    if m.1 < 0 then none else (runG t cell m.1.toNat b).map fun q => (q.1, writF m.2 x ++ q.2)
def runT (t : Tr) (b : List UInt8) : Option (List UInt8) :=
  if validT t = false then none else
  match runG t (cellF t.classes) 0 b with
  | none => none
  | some (s, out) => if t.final.getD s false = true then some (out ++ t.ends.getD s []) else none
theorem any_step {α : Type} {p : α → Bool} {l : List α} {k : Nat} (h : k < l.length) (h1 : (l.take k).any p = false) (h2 : p l[k] = false) : (l.take (k + 1)).any p = false := by
  rw [List.take_add_one, List.getElem?_eq_getElem h, List.any_append, h1]; simp [h2]
theorem any_t {α : Type} {p : α → Bool} {l : List α} {k : Nat} (h : k < l.length) (h2 : p l[k] = true) : 0 ≤ (k : Int) ↔ l.any p = true := by
  refine ⟨fun _ => List.any_eq_true.2 ⟨_, List.getElem_mem h, h2⟩, fun _ => by omega⟩
theorem Pcs.slice {G : Ghost} {v : Value} {l : List Pc} (h : Pcs G v l) : ∃ A c, v = .slice A l.length c := LstR.slice h
theorem Mvs.slice {G : Ghost} {v : Value} {l : List Mv} (h : Mvs G v l) : ∃ A c, v = .slice A l.length c := LstR.slice h
theorem Rows_.slice {G : Ghost} {v : Value} {l : List (List Mv)} (h : Rows_ G v l) : ∃ A c, v = .slice A l.length c := LstR.slice h
theorem Bos.slice {G : Ghost} {v : Value} {l : List Bool} (h : Bos G v l) : ∃ A c, v = .slice A l.length c := LstR.slice h
theorem Bys.slice {G : Ghost} {v : Value} {l : List (List UInt8)} (h : Bys G v l) : ∃ A c, v = .slice A l.length c := LstR.slice h
theorem Cls.slice {G : Ghost} {v : Value} {l : List (List Nat)} (h : Cls G v l) : ∃ A c, v = .slice A l.length c := LstR.slice h
theorem part_step (l : List (List Nat)) (k : Nat) (all : List Nat) (h : k < l.length) : partG (l.drop k) all = if sizeF l[k] = 0 ∨ 0 < sizeF (interF all l[k]) then false else partG (l.drop (k + 1)) (unionF all l[k]) := by
  rw [List.drop_eq_getElem_cons h, partG]
theorem part_end (l : List (List Nat)) (all : List Nat) : partG (l.drop l.length) all = decide (sizeF all = 256) := by rw [List.drop_length, partG]
theorem wr_step {A : List UInt8} {n k : Nat} {x : UInt8} (z : Value) (hA : A.length = k) (h : k < n) : (A.map byteV ++ List.replicate (n - k) z).set k (byteV x) = (A ++ [x]).map byteV ++ List.replicate (n - (k + 1)) z := by
  obtain ⟨j, hj⟩ : ∃ j, n - k = j + 1 := ⟨n - k - 1, by omega⟩
  rw [List.set_append_right _ _ (by simp [hA]), List.length_map, hA, Nat.sub_self, hj, show n - (k + 1) = j by omega, List.replicate_succ, List.set_cons_zero]
  simp
theorem wr_set {A : List UInt8} {n k : Nat} {x y : UInt8} (z : Value) (hA : A.length = k) (h : k < n) : ((A.map byteV ++ List.replicate (n - k) z).set k (byteV y)).set k (byteV x) = (A ++ [x]).map byteV ++ List.replicate (n - (k + 1)) z := by
  rw [List.set_set, wr_step z hA h]
theorem writF_snoc (l : List Pc) (k : Nat) (b : UInt8) (h : k < l.length) : writF (l.take (k + 1)) b = writF (l.take k) b ++ [if l[k].1 then b else l[k].2] := by
  unfold writF; rw [List.take_add_one, List.getElem?_eq_getElem h, List.map_append]; rfl
theorem cellG_len : ∀ (l : List (List Nat)) (k : Nat) (a : List Int), (cellG k l a).length = a.length
  | [], _, _ => rfl
  | c :: t, k, a => by
    rw [cellG, cellG_len t]
    have key : ∀ (bs : List UInt8) (a : List Int), (bs.foldl (fun a b => a.set b.toNat (k : Int)) a).length = a.length := by
      intro bs
      induction bs with
      | nil => simp
      | cons b t ih => intro a; rw [List.foldl_cons, ih, List.length_set]
    exact key _ _
def cellS (k : Nat) (bs : List UInt8) (a : List Int) : List Int := bs.foldl (fun a b => a.set b.toNat (k : Int)) a
theorem cellS_len (k : Nat) : ∀ (bs : List UInt8) (a : List Int), (cellS k bs a).length = a.length := by
  intro bs
  induction bs with
  | nil => intro a; rfl
  | cons b t ih => intro a; show (cellS k t _).length = _; rw [ih, List.length_set]
theorem cellS_snoc (k : Nat) (bs : List UInt8) (a : List Int) (j : Nat) (h : j < bs.length) : cellS k (bs.take (j + 1)) a = (cellS k (bs.take j) a).set bs[j].toNat (k : Int) := by
  unfold cellS; rw [List.take_add_one, List.getElem?_eq_getElem h, List.foldl_append]; rfl
theorem cell_step (l : List (List Nat)) (k : Nat) (a : List Int) (h : k < l.length) : cellG k (l.drop k) a = cellG (k + 1) (l.drop (k + 1)) (cellS k (bytesF l[k]) a) := by
  rw [List.drop_eq_getElem_cons h, cellG]; rfl
theorem cellS_in {k n : Nat} (hk : k < n) : ∀ (bs : List UInt8) (a : List Int), (∀ v ∈ a, 0 ≤ v ∧ v < (n : Int)) → ∀ v ∈ cellS k bs a, 0 ≤ v ∧ v < (n : Int) := by
  intro bs
  induction bs with
  | nil => intro a h; exact h
  | cons b t ih =>
    intro a h
    refine ih _ fun v hv => ?_
    rcases List.mem_or_eq_of_mem_set hv with h1 | h1
    · exact h v h1
    · omega
theorem cellG_in {n : Nat} : ∀ (l : List (List Nat)) (k : Nat) (a : List Int), k + l.length ≤ n → (∀ v ∈ a, 0 ≤ v ∧ v < (n : Int)) → ∀ v ∈ cellG k l a, 0 ≤ v ∧ v < (n : Int)
  | [], _, _, _, h => h
  | c :: t, k, a, hn, h => cellG_in t (k + 1) _ (by simp at hn ⊢; omega) (cellS_in (by simp at hn; omega) _ _ h)
theorem cellF_in (l : List (List Nat)) (h : 0 < l.length) : ∀ v ∈ cellF l, 0 ≤ v ∧ v < (l.length : Int) :=
  cellG_in l 0 _ (by omega) fun v hv => by have := List.eq_of_mem_replicate hv; omega
theorem cellF_len (l : List (List Nat)) : (cellF l).length = 256 := by unfold cellF; rw [cellG_len]; exact List.length_replicate
theorem rows_step {n K k : Nat} {ms : List (List Mv)} {fs : List Bool} {es : List (List UInt8)} (h1 : k < ms.length) (h2 : k < fs.length) (h3 : k < es.length) :
    rowsOk n K (ms.drop k) (fs.drop k) (es.drop k) = (decide (ms[k].length = K) && decide (es[k].length ≤ 8) && (fs[k] || decide (es[k].length = 0)) && !(ms[k].any (badM (n : Int))) && rowsOk n K (ms.drop (k + 1)) (fs.drop (k + 1)) (es.drop (k + 1))) := by
  rw [List.drop_eq_getElem_cons h1, List.drop_eq_getElem_cons h2, List.drop_eq_getElem_cons h3, rowsOk]
  rfl
def TrSmall (t : Tr) : Prop := t.classes.length ≤ 1000000000 ∧ (∀ r ∈ t.moves, r.length ≤ 1000000000 ∧ ∀ m ∈ r, m.2.length ≤ 1000000000) ∧ t.moves.length ≤ 1000000000
/-! ### what a valid transducer gives -/
theorem valid_facts {t : Tr} (h : validT t = true) : 1 ≤ t.moves.length ∧ t.final.length = t.moves.length ∧ t.ends.length = t.moves.length ∧ 0 < t.classes.length ∧ rowsOk t.moves.length t.classes.length t.moves t.final t.ends = true := by
  unfold validT at h
  simp only [Bool.and_eq_true, decide_eq_true_eq] at h
  obtain ⟨⟨⟨⟨⟨⟨h1, h2⟩, h3⟩, h4⟩, h5⟩, h6⟩, h7⟩ := h
  refine ⟨h1, h3, h4, ?_, h7⟩
  cases hc : t.classes with
  | nil => rw [hc] at h6; exact absurd h6 (by decide)
  | cons c l => simp
theorem rows_at {n K : Nat} : ∀ (ms : List (List Mv)) (fs : List Bool) (es : List (List UInt8)), rowsOk n K ms fs es = true → ∀ r ∈ ms, r.length = K ∧ r.any (badM (n : Int)) = false
  | [], _, _, _, r, hr => by cases hr
  | q :: ms, fs, es, h, r, hr => by
    rw [rowsOk] at h
    simp only [Bool.and_eq_true, decide_eq_true_eq, Bool.not_eq_true'] at h
    obtain ⟨⟨⟨⟨h1, _⟩, _⟩, h4⟩, h5⟩ := h
    rcases List.mem_cons.1 hr with rfl | hr
    · exact ⟨h1, h4⟩
    · exact rows_at ms _ _ h5 r hr
theorem move_ok {n : Nat} {r : List Mv} (h : r.any (badM (n : Int)) = false) {m : Mv} (hm : m ∈ r) : -1 ≤ m.1 ∧ m.1 < (n : Int) := by
  have := List.any_eq_false.1 h m hm
  simp only [badM, Bool.or_eq_true, not_or, decide_eq_true_eq] at this
  omega
theorem runG_snoc {t : Tr} {cell : List Int} {s : Nat} {x : UInt8} {b : List UInt8} {m : Mv} (hm : (t.moves.getD s []).getD (cell.getD x.toNat 0).toNat (0, []) = m) :
    runG t cell s (x :: b) = if m.1 < 0 then none else (runG t cell m.1.toNat b).map fun q => (q.1, writF m.2 x ++ q.2) := by
  rw [runG, hm]
theorem getD_at {α : Type} {l : List α} {k : Nat} {z : α} (h : k < l.length) : l.getD k z = l[k] := by
  rw [List.getD_eq_getElem?_getD, List.getElem?_eq_getElem h]; rfl
theorem writF_len (l : List Pc) (b : UInt8) : (writF l b).length = l.length := by unfold writF; rw [List.length_map]
theorem move_out {n : Nat} {r : List Mv} (h : r.any (badM (n : Int)) = false) {m : Mv} (hm : m ∈ r) : m.2.length ≤ 8 := by
  have := List.any_eq_false.1 h m hm
  simp only [badM, Bool.or_eq_true, not_or, decide_eq_true_eq] at this
  omega
theorem rows_end {n K : Nat} : ∀ (ms : List (List Mv)) (fs : List Bool) (es : List (List UInt8)) (s : Nat), rowsOk n K ms fs es = true → s < ms.length → (h : s < es.length) → es[s].length ≤ 8
  | [], _, _, _, _, h, _ => by cases h
  | q :: ms, fs, e :: es, 0, h, _, _ => by
    rw [rowsOk] at h
    simp only [Bool.and_eq_true, decide_eq_true_eq] at h
    exact h.1.1.1.2
  | q :: ms, fs, e :: es, s + 1, h, h2, h3 => by
    rw [rowsOk] at h
    simp only [Bool.and_eq_true] at h
    exact rows_end ms fs.tail es s h.2 (by simpa using h2) (by simpa using h3)
theorem ends_le {t : Tr} (h : validT t = true) (s : Nat) (hs : s < t.ends.length) : t.ends[s].length ≤ 8 := by
  obtain ⟨_, _, h3, _, h5⟩ := valid_facts h
  exact rows_end _ _ _ s h5 (by omega) hs

/-! ### the machine of one replacement -/
def litC (l : List UInt8) : List Value := l.flatMap fun b => [.bool false, .int .u8 (b.toNat : Int)]
theorem litC_snoc (l : List UInt8) (b : UInt8) : litC (l ++ [b]) = litC l ++ [.bool false, .int .u8 (b.toNat : Int)] := by simp [litC]
theorem litC_one (l : List UInt8) : ∀ y ∈ litC l, y.oneCell' = true := by
  intro y hy
  simp only [litC, List.mem_flatMap, List.mem_cons, List.not_mem_nil, or_false] at hy
  obtain ⟨b, _, rfl | rfl⟩ := hy <;> rfl
/-- The cells of a block that never changes. -/
def ClAt (G : Ghost) (b : Nat) (cs : List Value) : Prop := ∀ (i : Nat) (v : Value), cs[i]? = some v → gcell G ⟨b, i, none⟩ = some v
theorem ClAt.mono {G G' : Ghost} (h : G.le G') {b : Nat} {c : List Value} (hc : ClAt G b c) : ClAt G' b c := fun i v hv => gcell_mono h (hc i v hv)
theorem two1 {u v : Value} (h : u.oneCell' = true) (h2 : v.oneCell' = true) : ∀ y ∈ [u, v], y.oneCell' = true := by
  intro y hy
  simp only [List.mem_cons, List.not_mem_nil, or_false] at hy
  rcases hy with rfl | rfl
  · exact h
  · exact h2
theorem four1 {a b c d : Value} (h1 : a.oneCell' = true) (h2 : b.oneCell' = true) (h3 : c.oneCell' = true) (h4 : d.oneCell' = true) : ∀ y ∈ [a, b, c, d], y.oneCell' = true := by
  intro y hy
  simp only [List.mem_cons, List.not_mem_nil, or_false] at hy
  rcases hy with rfl | rfl | rfl | rfl <;> assumption
def pcC (l : List Pc) : List Value := l.flatMap fun p => [.bool p.1, .int .u8 (p.2.toNat : Int)]
theorem litC_pc (l : List UInt8) : litC l = pcC (l.map fun b => (false, b)) := by
  unfold litC pcC
  induction l with
  | nil => rfl
  | cons b t ih => rw [List.flatMap_cons, List.map_cons, List.flatMap_cons, ih]
theorem pcC_snoc (l : List Pc) (p : Pc) : pcC (l ++ [p]) = pcC l ++ [.bool p.1, .int .u8 (p.2.toNat : Int)] := by simp [pcC]
theorem All2.self {α β : Type} {R : α → β → Prop} {f : β → α} (h : ∀ b, R (f b) b) : ∀ l : List β, All2 R (l.map f) l
  | [] => trivial
  | b :: l => ⟨h b, All2.self h l⟩
theorem Pcs.ofSl {G : Ghost} {v : Value} {n : Nat} {xs : List Value} {l : List Pc} (h : Sl G v 2 n xs) (hx : xs = pcC l) (hn : n = l.length) : Pcs G v l :=
  LstR.ofSl h (cs := l.map fun p => [.bool p.1, .int .u8 (p.2.toNat : Int)]) (by rw [hx]; simp [pcC, List.flatMap]) hn (All2.self (f := fun p : Pc => [Value.bool p.1, .int .u8 (p.2.toNat : Int)]) (fun _ => rfl) l) (by simp only [List.mem_map]; rintro c ⟨p, _, rfl⟩; rfl)
theorem Pcs.lit {G : Ghost} {v : Value} {n : Nat} {l : List UInt8} (h : Sl G v 2 n (litC l)) (hn : n = l.length) : Pcs G v (l.map fun b => (false, b)) := Pcs.ofSl h (litC_pc l) (by simpa using hn)
theorem Pcs.litC {G : Ghost} {v : Value} {n : Nat} {l : List UInt8} (h : Sl G v 2 n (litC l ++ [.bool true, .int .u8 0])) (hn : n = l.length + 1) : Pcs G v (l.map (fun b => (false, b)) ++ [(true, 0)]) :=
  Pcs.ofSl h (by rw [pcC_snoc, litC_pc]; rfl) (by simpa using hn)
theorem pre_dec {a b : List UInt8} {q : Bool} (h : decide (List.take (b.length - 0) (List.drop 0 a) = b) = q) : q = b.isPrefixOf a := by
  rw [← h, Bool.eq_iff_iff, List.isPrefixOf_iff_prefix, List.prefix_iff_eq_take, decide_eq_true_eq, List.drop_zero, Nat.sub_zero]
  exact eq_comm
theorem pre_short {a b : List UInt8} (h : a.length < b.length) : false = b.isPrefixOf a := by
  rw [eq_comm, Bool.eq_false_iff]
  intro h2
  have := (List.isPrefixOf_iff_prefix.1 h2).length_le
  omega
theorem TrR.mono {G G' : Ghost} (h : G.le G') {v : Value} {t : Tr} (ht : TrR G v t) : TrR G' v t := by
  obtain ⟨a, b, c, d, rfl, h1, h2, h3, h4⟩ := ht
  exact ⟨a, b, c, d, rfl, h1.mono h, h2.mono h, h3.mono h, h4.mono h⟩
theorem TrR.ones {G : Ghost} {a b c d : Value} {t : Tr} (ht : TrR G (.agg #[a, b, c, d]) t) : [a, b, c, d].all (·.oneCell') = true := by
  obtain ⟨_, _, _, _, he, h1, h2, h3, h4⟩ := ht
  injection he with he
  have he2 := congrArg Array.toList he
  injection he2 with e1 he2
  injection he2 with e2 he2
  injection he2 with e3 he2
  injection he2 with e4 _
  subst e1 e2 e3 e4
  obtain ⟨_, _, rfl⟩ := LstR.slice h1
  obtain ⟨_, _, rfl⟩ := LstR.slice h2
  obtain ⟨_, _, rfl⟩ := LstR.slice h3
  obtain ⟨_, _, rfl⟩ := LstR.slice h4
  rfl
def trAA : Tr := ⟨[[18446744073709551615, 18446744065119617023, 18446744073709551615, 18446744073709551615], [0, 8589934592, 0, 0]], [[(0, [(true, 0)]), (1, [])], [(0, [(false, 97), (true, 0)]), (0, [(false, 98)])]], [true, true], [[], [97]]⟩

def MaxL (G : Ghost) : Prop := ∃ m : Int, gcell G ⟨0, 0, none⟩ = some (.int .i64 m)
theorem MaxL.mono {G G' : Ghost} (h : G.le G') (hm : MaxL G) : MaxL G' := hm.imp fun _ h1 => gcell_mono h h1
theorem trAA_small : TrSmall trAA := by unfold TrSmall; decide +kernel
/-! ### Trim -/
def trimF (c : List Nat) (l : List UInt8) : List UInt8 := ((l.dropWhile (hasF c)).reverse.dropWhile (hasF c)).reverse
theorem trim_0 {c : List Nat} {b rest : List UInt8} (h : b.dropWhile (hasF c) = rest.dropWhile (hasF c)) (h0 : rest.length = 0) : trimF c b = (rest.reverse.dropWhile (hasF c)).reverse := by
  obtain rfl := List.length_eq_zero_iff.1 h0
  unfold trimF; rw [h]; rfl
theorem trim_1 {c : List Nat} {b t : List UInt8} {a : UInt8} (h : b.dropWhile (hasF c) = (a :: t).dropWhile (hasF c)) (h0 : hasF c a = false) : trimF c b = ((a :: t).reverse.dropWhile (hasF c)).reverse := by
  unfold trimF; rw [h, List.dropWhile_cons_of_neg (by simp [h0])]
theorem trim_d {c : List Nat} {b t : List UInt8} {a : UInt8} (h : b.dropWhile (hasF c) = (a :: t).dropWhile (hasF c)) (h0 : hasF c a = true) : b.dropWhile (hasF c) = t.dropWhile (hasF c) := by
  rw [h, List.dropWhile_cons_of_pos h0]
theorem rest_snoc {rest : List UInt8} (h : 0 < rest.length) : rest = rest.take (rest.length - 1) ++ [rest[rest.length - 1]] := by
  conv => lhs; rw [← List.take_append_drop (rest.length - 1) rest]
  congr 1
  rw [List.drop_eq_getElem_cons (by omega), List.drop_eq_nil_of_le (by omega)]
theorem trim_2 {c : List Nat} {rest : List UInt8} (h : 0 < rest.length) (h0 : hasF c rest[rest.length - 1] = true) : (rest.reverse.dropWhile (hasF c)).reverse = (((rest.drop 0).take (rest.length - 1 - 0)).reverse.dropWhile (hasF c)).reverse := by
  conv => lhs; rw [rest_snoc h]
  rw [List.reverse_append, List.reverse_singleton, List.singleton_append, List.dropWhile_cons_of_pos h0]
  rfl
theorem trim_3 {c : List Nat} {rest : List UInt8} (h : 0 < rest.length) (h0 : hasF c rest[rest.length - 1] = false) : (rest.reverse.dropWhile (hasF c)).reverse = rest := by
  have e : rest.reverse = rest[rest.length - 1] :: (rest.take (rest.length - 1)).reverse := by
    conv => lhs; rw [rest_snoc h]
    rw [List.reverse_append, List.reverse_singleton, List.singleton_append]
  rw [e, List.dropWhile_cons_of_neg (by simp [h0]), ← e, List.reverse_reverse]
theorem trim_4 {c : List Nat} {rest : List UInt8} (h : rest.length = 0) : (rest.reverse.dropWhile (hasF c)).reverse = rest := by
  obtain rfl := List.length_eq_zero_iff.1 h
  rfl
end Go.Proofs.YtffbfibpfnlfeaaGreatDoor
