/- Package script: what its functions compute, in plain words. -/
import Derived.Test.YtcnljflihhggiaaGreatDoorExPanic
import Derived.Lib.ItoaNum
namespace Go.Proofs.YtcnljflihhggiaaGreatDoor
open Go Go.Ex

theorem take_map_succ (l : List UInt8) (k : Nat) (h : k < l.length) : (l.take (k + 1)).map byteV = (l.take k).map byteV ++ [.int .u8 (l[k].toNat : Int)] := by
  rw [List.take_add_one, List.getElem?_eq_getElem h, List.map_append]; rfl
theorem foldl_take_succ {α β : Type} (f : β → α → β) (z : β) (l : List α) (k : Nat) (h : k < l.length) : (l.take (k + 1)).foldl f z = f ((l.take k).foldl f z) l[k] := by
  rw [List.take_add_one, List.getElem?_eq_getElem h, List.foldl_append]; rfl
theorem u8i {a b : UInt8} (h : (a.toNat : Int) = (b.toNat : Int)) : a = b := UInt8.toNat_inj.1 (by omega)
theorem u8_all {p : UInt8 → Prop} (h : ∀ n : Fin 256, p (UInt8.ofNat n.val)) (x : UInt8) : p x := by
  have := h ⟨x.toNat, x.toNat_lt⟩
  simpa using this

/-! ### events -/
structure Ev where
  kind : Int
  a : Int
  c : Int
  b : List UInt8
instance : Inhabited Ev := ⟨⟨0, 0, 0, []⟩⟩
def EvR (G : Ghost) (cs : List Value) (e : Ev) : Prop := ∃ v, cs = [.int .i64 e.kind, .int .i64 e.a, .int .i64 e.c, v] ∧ Bytes G v e.b
theorem EvR.mono {G G' : Ghost} (h : G.le G') {cs : List Value} {e : Ev} (he : EvR G cs e) : EvR G' cs e := by
  obtain ⟨v, h1, h2⟩ := he; exact ⟨v, h1, h2.mono h⟩
def Evs (G : Ghost) (v : Value) (l : List Ev) : Prop := LstR 4 EvR G v l
theorem Evs.mono {G G' : Ghost} (h : G.le G') {v : Value} {l : List Ev} (hl : Evs G v l) : Evs G' v l := LstR.mono (fun _ _ he => he.mono h) h hl
/-- What the cells of events are, where their bytes lie somewhere. -/
def EvC (G : Ghost) : List Value → List Ev → Prop
  | xs, [] => xs = []
  | xs, e :: l => ∃ v ys, xs = .int .i64 e.kind :: .int .i64 e.a :: .int .i64 e.c :: v :: ys ∧ Bytes G v e.b ∧ EvC G ys l

/-! ### the syntax of the kinds -/
def kwF (k : Nat) : List UInt8 :=
  match k with
  | 1 => [115, 101, 110, 100]
  | 2 => [117, 112, 103, 114, 97, 100, 101]
  | 3 => [98, 97, 99, 107]
  | 4 => [115, 116, 111, 112]
  | 5 => [115, 116, 97, 114, 116]
  | 6 => [108, 105, 101]
  | 7 => [115, 97, 109, 112, 108, 101]
  | 8 => [99, 114, 97, 115, 104]
  | 9 => [115, 121, 110, 99]
  | _ => []
def useA (k : Nat) : Bool := decide (1 ≤ k) && decide (k ≤ 8)
def useB (k : Nat) : Bool := decide (k = 1)
def useC (k : Nat) : Bool := decide (k = 2) || decide (k = 5) || decide (k = 6) || decide (k = 8)
def kindOk (k : Int) : Bool := decide (1 ≤ k) && decide (k ≤ 9)
def fitE (e : Ev) : Bool := kindOk e.kind && ((useA e.kind.toNat || decide (e.a = 0)) && (useB e.kind.toNat || decide (e.b.length = 0)) && (useC e.kind.toNat || decide (e.c = 0)))
def wrE (e : Ev) : Bool := fitE e && (decide (0 ≤ e.a) && decide (e.a ≤ 1048576) && (decide (0 ≤ e.c) && decide (e.c ≤ 1048576)))
def hexD (n : Nat) : UInt8 := ([48, 49, 50, 51, 52, 53, 54, 55, 56, 57, 97, 98, 99, 100, 101, 102] : List UInt8).getD n 0
def hexP (b : List UInt8) : List UInt8 := b.flatMap fun x => [hexD (x.toNat / 16), hexD (x.toNat % 16)]
def hexT (b : List UInt8) : List UInt8 := if b.length = 0 then [45] else hexP b
def numT (n : Int) : List UInt8 := Lib.decDigits n.toNat
def optT (u : Bool) (t : List UInt8) : List UInt8 := if u then 32 :: t else []
def lineT (e : Ev) : List UInt8 := kwF e.kind.toNat ++ optT (useA e.kind.toNat) (numT e.a) ++ optT (useB e.kind.toNat) (hexT e.b) ++ optT (useC e.kind.toNat) (numT e.c) ++ [10]
def linesT (l : List Ev) : List UInt8 := l.flatMap lineT
def fmtT (l : List Ev) : List UInt8 := if l.all wrE then linesT l else []
theorem linesT_succ {l : List Ev} {k : Nat} (h : k < l.length) : linesT (l.take (k + 1)) = linesT (l.take k) ++ lineT l[k] := by
  unfold linesT; rw [List.take_add_one, List.getElem?_eq_getElem h, List.flatMap_append]; simp
theorem hexP_succ {b : List UInt8} {k : Nat} (h : k < b.length) : hexP (b.take (k + 1)) = hexP (b.take k) ++ [hexD (b[k].toNat / 16), hexD (b[k].toNat % 16)] := by
  unfold hexP; rw [List.take_add_one, List.getElem?_eq_getElem h, List.flatMap_append]; simp
theorem hexP_len (b : List UInt8) : (hexP b).length = 2 * b.length := by
  induction b with
  | nil => rfl
  | cons x t ih => simp only [hexP, List.flatMap_cons, List.length_append, List.length_cons, List.length_nil] at ih ⊢; omega
theorem fmt_bad {l : List Ev} {k : Nat} (h : k < l.length) (hw : wrE l[k] = false) : fmtT l = [] := by
  unfold fmtT; rw [if_neg]
  intro h2; rw [List.all_eq_true] at h2
  rw [h2 _ (List.getElem_mem h)] at hw; cases hw
theorem fmt_good {l : List Ev} (h : ∀ i (hi : i < l.length), wrE l[i] = true) : fmtT l = linesT l := by
  unfold fmtT; rw [if_pos]
  rw [List.all_eq_true]; intro x hx
  obtain ⟨i, hi, rfl⟩ := List.getElem_of_mem hx
  exact h i hi

/-! ### the parser -/
abbrev Er := Int × Nat
def wB (b : UInt8) : Bool := !(decide (b = 32)) && !(decide (b = 10))
def wL (s : List UInt8) (q : Nat) : List UInt8 := (s.drop q).takeWhile wB
def wordP (s : List UInt8) (q : Nat) : Except Er (List UInt8 × Nat) :=
  if s.length ≤ q then .error (21, q) else if (wL s q).length = 0 then .error (20, q) else .ok (wL s q, q + (wL s q).length)
def expP (s : List UInt8) (q : Nat) (b : UInt8) : Except Er Nat :=
  if s.length ≤ q then .error (21, q) else if s[q]? = some b then .ok (q + 1) else .error (20, q)
def isDig (b : UInt8) : Bool := decide (48 ≤ b.toNat) && decide (b.toNat ≤ 57)
def badN (w : List UInt8) (i : Nat) : Bool := !isDig (w.getD i 0) || (decide (i = 1) && decide (w.getD 0 0 = 48))
def numL (w : List UInt8) : Nat := w.foldl (fun n b => min (10 * n + (b.toNat - 48)) 1048577) 0
def badW (w : List UInt8) : Bool := (List.range w.length).any (badN w)
def numV (w : List UInt8) (p q : Nat) : Except Er (Nat × Nat) := if badW w = true then .error (20, p) else if 1048576 < numL w then .error (2, p) else .ok (numL w, q)
def numP (s : List UInt8) (q : Nat) : Except Er (Nat × Nat) :=
  match expP s q 32 with
  | .error e => .error e
  | .ok q1 => match wordP s q1 with
    | .error e => .error e
    | .ok (w, q2) => numV w q1 q2
def hexV (b : UInt8) : Option Nat := if 48 ≤ b.toNat ∧ b.toNat ≤ 57 then some (b.toNat - 48) else if 97 ≤ b.toNat ∧ b.toNat ≤ 102 then some (b.toNat - 87) else none
def hexL : List UInt8 → Option (List UInt8)
  | [] => some []
  | [_] => none
  | x :: y :: t => match hexV x, hexV y with
    | some h, some l => (hexL t).map (UInt8.ofNat (16 * h + l) :: ·)
    | _, _ => none
def hexW (w : List UInt8) (p q : Nat) : Except Er (List UInt8 × Nat) :=
  if w = [45] then .ok ([], q) else match hexL w with
    | none => .error (20, p)
    | some l => .ok (l, q)
def bytesP (s : List UInt8) (q : Nat) : Except Er (List UInt8 × Nat) :=
  match expP s q 32 with
  | .error e => .error e
  | .ok q1 => match wordP s q1 with
    | .error e => .error e
    | .ok (w, q2) => hexW w q1 q2
def kindF (w : List UInt8) : Nat := ((List.range 10).find? fun k => decide (1 ≤ k) && decide (kwF k = w)).getD 0
def aP (s : List UInt8) (u : Bool) (q : Nat) : Except Er (Nat × Nat) := if u = true then numP s q else .ok (0, q)
def bP (s : List UInt8) (u : Bool) (q : Nat) : Except Er (List UInt8 × Nat) := if u = true then bytesP s q else .ok ([], q)
def argsP (s : List UInt8) (k q : Nat) : Except Er (Ev × Nat) :=
  match aP s (useA k) q with
  | .error e => .error e
  | .ok (a, q1) => match bP s (useB k) q1 with
    | .error e => .error e
    | .ok (b, q2) => match aP s (useC k) q2 with
      | .error e => .error e
      | .ok (c, q3) => match expP s q3 10 with
        | .error e => .error e
        | .ok q4 => .ok (⟨k, a, c, b⟩, q4)
def eventP (s : List UInt8) (q : Nat) : Except Er (Ev × Nat) :=
  match wordP s q with
  | .error e => .error e
  | .ok (w, q1) => if kindF w = 0 then .error (20, q) else argsP s (kindF w) q1
/-- The events from a place on, n having been read; the first number bounds the rounds. -/
def parseG (s : List UInt8) : Nat → Nat → Nat → Except Er (List Ev)
  | 0, q, _ => if s.length ≤ q then .ok [] else .error (0, q)
  | f + 1, q, n => if s.length ≤ q then .ok [] else if n = 400 then .error (2, q) else
    match eventP s q with
    | .error e => .error e
    | .ok (e, q1) => match parseG s f q1 (n + 1) with
      | .error e => .error e
      | .ok l => .ok (e :: l)
def parseP (s : List UInt8) : Except Er (List Ev) := if 4000 < s.length then .error (2, 0) else parseG s s.length 0 0
def outE : Except Er (List Ev) → List Ev
  | .ok l => l
  | .error _ => []
def outA : Except Er (List Ev) → Nat
  | .ok _ => 0
  | .error e => e.2
def outC : Except Er (List Ev) → Int
  | .ok _ => 0
  | .error e => e.1
/-! what the pieces give -/
theorem exp_end {s : List UInt8} {q : Nat} {b : UInt8} (h : s.length ≤ q) : expP s q b = .error (21, q) := if_pos h
theorem exp_bad {s : List UInt8} {q : Nat} {b : UInt8} (h : q < s.length) (hb : ¬ s[q] = b) : expP s q b = .error (20, q) := by
  unfold expP; rw [if_neg (by omega), if_neg (by rw [List.getElem?_eq_getElem h]; simpa using hb)]
theorem exp_ok {s : List UInt8} {q : Nat} {b : UInt8} (h : q < s.length) (hb : s[q] = b) : expP s q b = .ok (q + 1) := by
  unfold expP; rw [if_neg (by omega), if_pos (by rw [List.getElem?_eq_getElem h, hb])]
theorem exp_inv {s : List UInt8} {q q1 : Nat} {b : UInt8} (h : expP s q b = .ok q1) : q1 = q + 1 ∧ ∃ hq : q < s.length, s[q] = b := by
  unfold expP at h
  split at h
  · cases h
  · rename_i h1
    split at h
    · rename_i h2; cases h
      rw [List.getElem?_eq_getElem (by omega)] at h2
      exact ⟨rfl, by omega, by simpa using h2⟩
    · cases h
theorem wL_step {s : List UInt8} {q j : Nat} (hq : q + j < s.length) (hj : j ≤ (wL s q).length) (hb : wB s[q + j] = true) : j < (wL s q).length := by
  rcases Nat.lt_or_ge j (wL s q).length with h | h
  · exact h
  exfalso
  have hj2 : j = (wL s q).length := by omega
  have hd : s.drop q = (wL s q) ++ (s.drop q).dropWhile wB := by unfold wL; exact (List.takeWhile_append_dropWhile).symm
  have h2 : s.drop (q + j) = (s.drop q).dropWhile wB := by
    rw [← List.drop_drop, hd, hj2, List.drop_left]
    rw [← hd]
  rw [List.drop_eq_getElem_cons hq] at h2
  have h3 := List.head?_dropWhile_not wB (s.drop q)
  rw [← h2] at h3
  dsimp only [List.head?_cons] at h3
  rw [hb] at h3; cases h3
theorem wL_stop {s : List UInt8} {q j : Nat} (hj : j ≤ (wL s q).length) (hb : q + j = s.length ∨ ∃ h : q + j < s.length, wB s[q + j] = false) : j = (wL s q).length := by
  rcases Nat.lt_or_ge j (wL s q).length with h | h
  · exfalso
    have hpre : wL s q <+: s.drop q := List.takeWhile_prefix _
    have hle := hpre.length_le
    rw [List.length_drop] at hle
    rcases hb with hb | ⟨h1, hb⟩
    · omega
    have hall : ∀ x ∈ wL s q, wB x = true := fun x hx => by
      have := List.all_takeWhile (p := wB) (l := s.drop q)
      rw [List.all_eq_true] at this
      exact this x hx
    have hx : (wL s q)[j] = s[q + j] := by
      have := hpre.getElem h
      rw [this, List.getElem_drop]
    have := hall _ (List.getElem_mem h)
    rw [hx, hb] at this; cases this
  · omega
theorem wL_le (s : List UInt8) (q : Nat) : q + (wL s q).length ≤ max q s.length := by
  have hpre : wL s q <+: s.drop q := List.takeWhile_prefix _
  have := hpre.length_le
  rw [List.length_drop] at this; omega
theorem wL_take (s : List UInt8) (q : Nat) : (s.drop q).take (wL s q).length = wL s q := by
  have hpre : wL s q <+: s.drop q := List.takeWhile_prefix _
  exact (List.prefix_iff_eq_take.1 hpre).symm
theorem word_end {s : List UInt8} {q : Nat} (h : s.length ≤ q) : wordP s q = .error (21, q) := if_pos h
theorem word_bad {s : List UInt8} {q : Nat} (h : q < s.length) (hw : (wL s q).length = 0) : wordP s q = .error (20, q) := by
  unfold wordP; rw [if_neg (by omega), if_pos hw]
theorem word_ok {s : List UInt8} {q : Nat} (h : q < s.length) (hw : (wL s q).length ≠ 0) : wordP s q = .ok (wL s q, q + (wL s q).length) := by
  unfold wordP; rw [if_neg (by omega), if_neg hw]
theorem word_inv {s w : List UInt8} {q q1 : Nat} (h : wordP s q = .ok (w, q1)) : w = wL s q ∧ w.length ≠ 0 ∧ q1 = q + w.length ∧ q1 ≤ s.length := by
  unfold wordP at h
  split at h
  · cases h
  · rename_i h1
    split at h
    · cases h
    · rename_i h2; cases h
      have := wL_le s q
      exact ⟨rfl, h2, rfl, by omega⟩
theorem num_of {s w : List UInt8} {q q1 q2 : Nat} (h1 : expP s q 32 = .ok q1) (h2 : wordP s q1 = .ok (w, q2)) : numP s q = numV w q1 q2 := by unfold numP; rw [h1]; dsimp only; rw [h2]
theorem num_e1 {s : List UInt8} {q : Nat} {e : Er} (h1 : expP s q 32 = .error e) : numP s q = .error e := by unfold numP; rw [h1]
theorem num_e2 {s : List UInt8} {q q1 : Nat} {e : Er} (h1 : expP s q 32 = .ok q1) (h2 : wordP s q1 = .error e) : numP s q = .error e := by unfold numP; rw [h1]; dsimp only; rw [h2]
theorem bytes_of {s w : List UInt8} {q q1 q2 : Nat} (h1 : expP s q 32 = .ok q1) (h2 : wordP s q1 = .ok (w, q2)) : bytesP s q = hexW w q1 q2 := by unfold bytesP; rw [h1]; dsimp only; rw [h2]
theorem bytes_e1 {s : List UInt8} {q : Nat} {e : Er} (h1 : expP s q 32 = .error e) : bytesP s q = .error e := by unfold bytesP; rw [h1]
theorem bytes_e2 {s : List UInt8} {q q1 : Nat} {e : Er} (h1 : expP s q 32 = .ok q1) (h2 : wordP s q1 = .error e) : bytesP s q = .error e := by unfold bytesP; rw [h1]; dsimp only; rw [h2]
theorem numV_bad {w : List UInt8} {p q i : Nat} (hi : i < w.length) (hb : badN w i = true) : numV w p q = .error (20, p) := by
  unfold numV badW; rw [if_pos]
  rw [List.any_eq_true]; exact ⟨i, List.mem_range.2 hi, hb⟩
theorem badW_no {w : List UInt8} (h : ∀ i, i < w.length → badN w i = false) : ¬ badW w = true := by
  unfold badW; rw [List.any_eq_true]; rintro ⟨i, hi, hb⟩
  rw [h i (List.mem_range.1 hi)] at hb; cases hb
theorem numV_big {w : List UInt8} {p q : Nat} (h : ∀ i, i < w.length → badN w i = false) (hb : 1048576 < numL w) : numV w p q = .error (2, p) := by
  unfold numV; rw [if_neg (badW_no h), if_pos hb]
theorem numV_ok {w : List UInt8} {p q : Nat} (h : ∀ i, i < w.length → badN w i = false) (hb : numL w ≤ 1048576) : numV w p q = .ok (numL w, q) := by
  unfold numV; rw [if_neg (badW_no h), if_neg (by omega)]
theorem numL_le (w : List UInt8) : numL w ≤ 1048577 := by
  unfold numL
  rcases List.eq_nil_or_concat w with rfl | ⟨t, x, rfl⟩
  · simp
  · rw [List.concat_eq_append, List.foldl_append]
    exact Nat.min_le_right _ _
theorem numL_succ {w : List UInt8} {k : Nat} (h : k < w.length) : numL (w.take (k + 1)) = min (10 * numL (w.take k) + (w[k].toNat - 48)) 1048577 := foldl_take_succ _ _ _ _ h
theorem bad_get {w : List UInt8} {i : Nat} (h : i < w.length) : w.getD i 0 = w[i] := by rw [List.getD_eq_getElem?_getD, List.getElem?_eq_getElem h]; rfl
theorem hexL_drop {w : List UInt8} {i : Nat} (h : i + 1 < w.length) : hexL (w.drop i) = match hexV w[i], hexV w[i + 1] with
    | some h, some l => (hexL (w.drop (i + 2))).map (UInt8.ofNat (16 * h + l) :: ·)
    | _, _ => none := by
  rw [List.drop_eq_getElem_cons (by omega : i < w.length), List.drop_eq_getElem_cons h]; rfl
theorem hexL_odd : ∀ (w : List UInt8), w.length % 2 = 1 → hexL w = none
  | [], h => by simp at h
  | [_], _ => rfl
  | x :: y :: t, h => by
    have ih := hexL_odd t (by simp only [List.length_cons] at h; omega)
    unfold hexL
    cases hexV x <;> cases hexV y <;> simp [ih]
theorem hexL_len : ∀ (w l : List UInt8), hexL w = some l → w.length = 2 * l.length
  | [], l, h => by obtain rfl : [] = l := by simpa [hexL] using h
                   rfl
  | [_], l, h => by simp [hexL] at h
  | x :: y :: t, l, h => by
    unfold hexL at h
    cases hx : hexV x <;> cases hy : hexV y <;> simp only [hx, hy] at h <;> try cases h
    cases ht : hexL t with
    | none => rw [ht] at h; cases h
    | some l' => rw [ht] at h; cases h; have := hexL_len t l' ht; simp only [List.length_cons]; omega
theorem hexV_le {b : UInt8} {n : Nat} (h : hexV b = some n) : n ≤ 15 := by
  unfold hexV at h; split at h
  · cases h; omega
  · split at h
    · cases h; omega
    · cases h
theorem kind_kw : ∀ k : Fin 10, 1 ≤ k.val → kindF (kwF k.val) = k.val := by decide +kernel
theorem kind_inv {w : List UInt8} (h : kindF w ≠ 0) : 1 ≤ kindF w ∧ kindF w ≤ 9 ∧ kwF (kindF w) = w := by
  unfold kindF at h ⊢
  cases hf : (List.range 10).find? fun k => decide (1 ≤ k) && decide (kwF k = w) with
  | none => rw [hf] at h; exact absurd rfl h
  | some k =>
    have h1 := List.find?_some hf
    have h2 := List.mem_range.1 (List.mem_of_find?_eq_some hf)
    simp only [Bool.and_eq_true, decide_eq_true_eq] at h1
    simp only [Option.getD_some]
    exact ⟨h1.1, by omega, h1.2⟩
theorem kind_zero {w : List UInt8} (h : ∀ k, 1 ≤ k → k ≤ 9 → kwF k ≠ w) : kindF w = 0 := by
  rcases Nat.eq_zero_or_pos (kindF w) with h0 | h0
  · exact h0
  · obtain ⟨h1, h2, h3⟩ := kind_inv (w := w) (by omega)
    exact absurd h3 (h _ h1 h2)
theorem kind_of {w : List UInt8} {k : Nat} (h1 : 1 ≤ k) (h9 : k ≤ 9) (h : kwF k = w) : kindF w = k := by rw [← h]; exact kind_kw ⟨k, by omega⟩ h1
theorem ev_e {s : List UInt8} {q : Nat} {e : Er} (h : wordP s q = .error e) : eventP s q = .error e := by unfold eventP; rw [h]
theorem ev_zero {s w : List UInt8} {q q1 : Nat} (h : wordP s q = .ok (w, q1)) (hk : kindF w = 0) : eventP s q = .error (20, q) := by unfold eventP; rw [h]; dsimp only; rw [if_pos hk]
theorem ev_kind {s w : List UInt8} {q q1 k : Nat} (h : wordP s q = .ok (w, q1)) (h1 : 1 ≤ k) (h9 : k ≤ 9) (hk : kwF k = w) : eventP s q = argsP s k q1 := by
  unfold eventP; rw [h]; dsimp only; rw [kind_of h1 h9 hk, if_neg (by omega)]
end Go.Proofs.YtcnljflihhggiaaGreatDoor
