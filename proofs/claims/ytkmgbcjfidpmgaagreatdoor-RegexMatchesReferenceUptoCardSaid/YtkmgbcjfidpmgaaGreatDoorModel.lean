/- Package regex: what its functions compute, in plain words. -/
import Derived.Test.YtkmgbcjfidpmgaaGreatDoorExPanic
namespace Go.Proofs.YtkmgbcjfidpmgaaGreatDoor
open Go Go.Ex

/-! ### letters and digits -/
def lowerF (x : UInt8) : UInt8 := if 65 ≤ x.toNat ∧ x.toNat ≤ 90 then x + 32 else x
theorem lowerF_t {x : UInt8} (h : 65 ≤ x.toNat ∧ x.toNat ≤ 90) : (lowerF x).toNat = x.toNat + 32 := by
  unfold lowerF; rw [if_pos h, UInt8.toNat_add]; simp; omega
theorem lowerF_f {x : UInt8} (h : ¬ (65 ≤ x.toNat ∧ x.toNat ≤ 90)) : lowerF x = x := if_neg h
def upperF (x : UInt8) : UInt8 := if 97 ≤ x.toNat ∧ x.toNat ≤ 122 then x - 32 else x
theorem upperF_t {x : UInt8} (h : 97 ≤ x.toNat ∧ x.toNat ≤ 122) : (upperF x).toNat = x.toNat - 32 := by
  unfold upperF; rw [if_pos h, UInt8.toNat_sub_of_le _ _ (by show 32 ≤ x.toNat; omega)]; rfl
theorem upperF_f {x : UInt8} (h : ¬ (97 ≤ x.toNat ∧ x.toNat ≤ 122)) : upperF x = x := if_neg h
def hexL (y : UInt8) : Option UInt8 :=
  if 48 ≤ y.toNat ∧ y.toNat ≤ 57 then some (y - 48) else if 97 ≤ y.toNat ∧ y.toNat ≤ 102 then some (y - 87) else none
theorem hexL_1 {y : UInt8} (h : 48 ≤ y.toNat ∧ y.toNat ≤ 57) : hexL y = some (y - 48) ∧ (y - 48).toNat = y.toNat - 48 :=
  ⟨if_pos h, UInt8.toNat_sub_of_le _ _ (by show 48 ≤ y.toNat; omega)⟩
theorem hexL_2 {y : UInt8} (h : 97 ≤ y.toNat ∧ y.toNat ≤ 102) : hexL y = some (y - 87) ∧ (y - 87).toNat = y.toNat - 87 :=
  ⟨by unfold hexL; rw [if_neg (by omega), if_pos h], UInt8.toNat_sub_of_le _ _ (by show 87 ≤ y.toNat; omega)⟩
theorem hexL_3 {y : UInt8} (h : ¬ (48 ≤ y.toNat ∧ y.toNat ≤ 57)) (h2 : ¬ (97 ≤ y.toNat ∧ y.toNat ≤ 102)) : hexL y = none := by
  unfold hexL; rw [if_neg h, if_neg h2]
def hexF (x : UInt8) : Option UInt8 := hexL (lowerF x)


theorem take_map_succ (l : List UInt8) (k : Nat) (h : k < l.length) : (l.take (k + 1)).map byteV = (l.take k).map byteV ++ [.int .u8 (l[k].toNat : Int)] := by
  rw [List.take_add_one, List.getElem?_eq_getElem h, List.map_append]; rfl
theorem foldl_take_succ {α β : Type} (f : β → α → β) (z : β) (l : List α) (k : Nat) (h : k < l.length) : (l.take (k + 1)).foldl f z = f ((l.take k).foldl f z) l[k] := by
  rw [List.take_add_one, List.getElem?_eq_getElem h, List.foldl_append]; rfl
theorem u8i {a b : UInt8} (h : (a.toNat : Int) = (b.toNat : Int)) : a = b := UInt8.toNat_inj.1 (by omega)

/-! ### sets of bytes: what the code reckons, word by word -/
def tab64 : List Nat := [0, 1, 56, 2, 57, 49, 28, 3, 61, 58, 42, 50, 38, 29, 17, 4, 62, 47, 59, 36, 45, 43, 51, 22, 53, 39, 33, 30, 24, 18, 12, 5, 63, 55, 48, 27, 60, 41, 37, 16, 46, 35, 44, 21, 52, 32, 23, 11, 54, 26, 40, 15, 34, 20, 31, 10, 25, 14, 19, 9, 13, 8, 7, 6]
/-- The library's table lies at its variable. -/
def Tab (G : Ghost) : Prop := ∀ i, i < 64 → gcell G ⟨0, i, none⟩ = some (.int .u8 ((tab64.getD i 0 : Nat) : Int))
theorem Tab.mono {G G' : Ghost} (h : G.le G') (ht : Tab G) : Tab G' := fun i hi => gcell_mono h (ht i hi)
theorem tab_le (i : Nat) : tab64.getD i 0 ≤ 63 := by
  rcases Nat.lt_or_ge i 64 with h | h
  · exact (by decide : ∀ i < 64, tab64.getD i 0 ≤ 63) i h
  · rw [List.getD_eq_getElem?_getD, List.getElem?_eq_none (by exact h)]; decide
def tzI (x : Nat) : Nat := mul64 (and64 x (sub64 0 x)) 285870213051353865 / 2 ^ 58
theorem tzI_lt (x : Nat) : tzI x < 64 := by
  unfold tzI mul64 W64; omega
def tzF (x : Nat) : Nat := if x = 0 then 64 else tab64.getD (tzI x) 0
theorem tzF_le (x : Nat) : tzF x ≤ 64 := by
  unfold tzF; split
  · omega
  · have := tab_le (tzI x); omega
def pop1 (x : Nat) : Nat := add64 (and64 (x / 2 ^ 1) 6148914691236517205) (and64 x 6148914691236517205)
def pop2 (x : Nat) : Nat := add64 (and64 (x / 2 ^ 2) 3689348814741910323) (and64 x 3689348814741910323)
def pop3 (x : Nat) : Nat := and64 (add64 (x / 2 ^ 4) x) 1085102592571150095
def popS (k x : Nat) : Nat := add64 x (x / 2 ^ k)
def pop6 (x : Nat) : Nat := popS 32 (popS 16 (popS 8 (pop3 (pop2 (pop1 x)))))
def popF (x : Nat) : Nat := and64 (pop6 x) 127
theorem and64_le (a b : Nat) : and64 a b ≤ b := Nat.le_trans Nat.and_le_right (Nat.mod_le _ _)
theorem popS_le (k x : Nat) : popS k x ≤ 2 * x := by
  unfold popS add64
  have h1 := Nat.mod_le (x + x / 2 ^ k) W64
  have h2 : x / 2 ^ k ≤ x := Nat.div_le_self _ _
  omega
theorem pop6_lt (x : Nat) : pop6 x < 9223372036854775808 := by
  unfold pop6
  have h3 : pop3 (pop2 (pop1 x)) ≤ 1085102592571150095 := and64_le _ _
  generalize pop3 (pop2 (pop1 x)) = y at *
  have h4 : popS 8 y ≤ y + y / 256 := Nat.mod_le _ _
  have h5 : popS 16 (popS 8 y) ≤ popS 8 y + popS 8 y / 65536 := Nat.mod_le _ _
  have h6 : popS 32 (popS 16 (popS 8 y)) ≤ popS 16 (popS 8 y) + popS 16 (popS 8 y) / 4294967296 := Nat.mod_le _ _
  omega
theorem popF_le (x : Nat) : popF x ≤ 127 := and64_le _ _
theorem and127 (n : Nat) : bitsI .and .i64 (n : Int) 127 = ((and64 n 127 : Nat) : Int) := by
  show IntKind.i64.wrap ((BitVec.ofInt 64 (n : Int) &&& BitVec.ofInt 64 ((127 : Nat) : Int)).toNat : Int) = _
  rw [BitVec.toNat_and, ofInt64, ofInt64]
  have h := and64_le n 127
  unfold and64 at *
  rw [wrap64_eq (by omega)]
def sizeF (c : List Nat) : Nat := c.foldl (fun s w => s + popF w) 0
theorem sizeF_snoc (c : List Nat) (k : Nat) (h : k < c.length) : sizeF (c.take (k + 1)) = sizeF (c.take k) + popF c[k] := by
  unfold sizeF; rw [List.take_add_one, List.getElem?_eq_getElem h, List.foldl_append]; rfl
theorem sizeF_le : ∀ (c : List Nat), sizeF c ≤ 127 * c.length := by
  have key : ∀ (c : List Nat) (s : Nat), c.foldl (fun s w => s + popF w) s ≤ s + 127 * c.length := by
    intro c
    induction c with
    | nil => simp
    | cons w t ih => intro s; have := ih (s + popF w); have := popF_le w; simp only [List.foldl_cons, List.length_cons]; omega
  intro c; have := key c 0; unfold sizeF; omega
def addF (c : List Nat) (x : UInt8) : List Nat := c.set (x.toNat / 64) (or64 (c.getD (x.toNat / 64) 0) (2 ^ (x.toNat % 64)))
theorem addF_len (c : List Nat) (x : UInt8) : (addF c x).length = c.length := by simp [addF]
def ofF (l : List UInt8) : List Nat := l.foldl addF [0, 0, 0, 0]
theorem ofF_len (l : List UInt8) : (ofF l).length = 4 := by
  have key : ∀ (l : List UInt8) (c : List Nat), (l.foldl addF c).length = c.length := by
    intro l
    induction l with
    | nil => simp
    | cons x t ih => intro c; rw [List.foldl_cons, ih, addF_len]
  exact key l _
def notF (c : List Nat) : List Nat := List.zipWith (fun x _ => xor64 18446744073709551615 x) c c
def interF (a b : List Nat) : List Nat := List.zipWith and64 a b
def unionF (a b : List Nat) : List Nat := List.zipWith or64 a b
def hasF (c : List Nat) (x : UInt8) : Bool := decide (and64 (c.getD (x.toNat / 64) 0) (2 ^ (x.toNat % 64)) ≠ 0)
theorem map_at (c : List Nat) (k : Nat) (h : k < c.length) : (c.map u64V)[k]? = some (u64V c[k]) := by
  rw [List.getElem?_map, List.getElem?_eq_getElem h]; rfl
theorem zip_step (op : Nat → Nat → Nat) (a b : List Nat) (k : Nat) (h : k < a.length) (h2 : k < b.length) (h3 : k < 4) :
    (((List.zipWith op a b).take k ++ List.replicate (4 - k) 0).map u64V).set k (u64V (op a[k] b[k])) = ((List.zipWith op a b).take (k + 1) ++ List.replicate (4 - (k + 1)) 0).map u64V := by
  obtain ⟨j, hj⟩ : ∃ j, 4 - k = j + 1 := ⟨4 - k - 1, by omega⟩
  have hl : ((List.zipWith op a b).take k).length = k := by rw [List.length_take, List.length_zipWith]; omega
  rw [← List.map_set, List.set_append_right _ _ (by omega), hl, Nat.sub_self, hj, show 4 - (k + 1) = j by omega, List.replicate_succ, List.set_cons_zero, List.take_add_one, List.getElem?_eq_getElem (by rw [List.length_zipWith]; omega)]
  simp
theorem u8wrap (n : Nat) : IntKind.u8.wrap (n : Int) = ((UInt8.ofNat n).toNat : Int) := by
  rw [IntKind.wrap_u8]; simp
theorem has_iff (c : List Nat) (x : UInt8) : cmpP .neq ((and64 (c.getD (x.toNat / 64) 0) (2 ^ (x.toNat % 64)) : Nat) : Int) 0 ↔ hasF c x = true := by
  unfold hasF; rw [decide_eq_true_iff]; show _ ≠ _ ↔ _; omega
theorem notF_len {c : List Nat} (h : c.length = 4) : (notF c).length = 4 := by unfold notF; rw [List.length_zipWith]; omega
theorem interF_len {a b : List Nat} (h : a.length = 4) (h2 : b.length = 4) : (interF a b).length = 4 := by unfold interF; rw [List.length_zipWith]; omega
theorem unionF_len {a b : List Nat} (h : a.length = 4) (h2 : b.length = 4) : (unionF a b).length = 4 := by unfold unionF; rw [List.length_zipWith]; omega
def bytesFrom (lo n : Nat) : List UInt8 := (List.range n).map fun i => UInt8.ofNat (lo + i)
theorem bytesFrom_succ (lo n : Nat) : ofF (bytesFrom lo (n + 1)) = addF (ofF (bytesFrom lo n)) (UInt8.ofNat (lo + n)) := by
  unfold ofF bytesFrom; rw [List.range_succ, List.map_append, List.foldl_append]; rfl
/-- The members of a word, by the code's steps. -/
def memF (i : Nat) : Nat → Nat → List UInt8
  | 0, _ => []
  | f + 1, w => if w = 0 then [] else UInt8.ofNat (64 * i + tzF w) :: memF i f (and64 w (sub64 w 1))
def bytesG : Nat → List Nat → List UInt8
  | _, [] => []
  | i, w :: t => memF i w w ++ bytesG (i + 1) t
def bytesF (c : List Nat) : List UInt8 := bytesG 0 c
theorem sub_one {w : Nat} (h0 : w ≠ 0) (h : w < W64) : sub64 w 1 = w - 1 := by
  unfold sub64
  show (w + (W64 - 1 % W64)) % W64 = w - 1
  rw [show w + (W64 - 1 % W64) = (w - 1) + W64 by unfold W64 at *; omega, Nat.add_mod_right, Nat.mod_eq_of_lt (by omega)]
theorem clear_low {w j : Nat} (h0 : w ≠ 0) (hd : 2 ^ j ∣ w) : 2 ^ (j + 1) ∣ w &&& (w - 1) := by
  rw [Nat.dvd_iff_mod_eq_zero, Nat.and_mod_two_pow]
  obtain ⟨m, rfl⟩ := hd
  have hp : 0 < 2 ^ j := Nat.pow_pos (by decide)
  rcases Nat.mod_two_eq_zero_or_one m with h | h
  · obtain ⟨q, rfl⟩ : ∃ q, m = 2 * q := ⟨m / 2, by omega⟩
    rw [show 2 ^ j * (2 * q) = 2 ^ (j + 1) * q by rw [Nat.pow_succ, Nat.mul_assoc], Nat.mul_mod_right, Nat.zero_and]
  · obtain ⟨q, rfl⟩ : ∃ q, m = 2 * q + 1 := ⟨m / 2, by omega⟩
    have e1 : 2 ^ j * (2 * q + 1) = 2 ^ (j + 1) * q + 2 ^ j := by rw [Nat.mul_add, Nat.mul_one, Nat.pow_succ, Nat.mul_assoc]
    have e2 : 2 ^ j * (2 * q + 1) - 1 = 2 ^ (j + 1) * q + (2 ^ j - 1) := by rw [e1]; omega
    have hlt : 2 ^ j < 2 ^ (j + 1) := by rw [Nat.pow_succ]; omega
    rw [e2, e1, Nat.mul_add_mod, Nat.mul_add_mod, Nat.mod_eq_of_lt hlt, Nat.mod_eq_of_lt (by omega : 2 ^ j - 1 < 2 ^ (j + 1)), Nat.and_two_pow_sub_one_eq_mod, Nat.mod_self]
theorem memF_len (i : Nat) : ∀ (f w j : Nat), w < W64 → j ≤ 64 → 2 ^ j ∣ w → (memF i f w).length ≤ 64 - j
  | 0, _, _, _, _, _ => by simp [memF]
  | f + 1, w, j, hw, hj, hd => by
    rw [memF]
    by_cases h0 : w = 0
    · rw [if_pos h0]; simp
    · rw [if_neg h0, List.length_cons]
      have hj2 : j ≠ 64 := fun h => by
        subst h
        have := Nat.le_of_dvd (Nat.pos_of_ne_zero h0) hd
        unfold W64 at hw; omega
      have e : and64 w (sub64 w 1) = w &&& (w - 1) := by
        rw [sub_one h0 hw]; unfold and64; rw [Nat.mod_eq_of_lt hw, Nat.mod_eq_of_lt (by omega)]
      have := memF_len i f (and64 w (sub64 w 1)) (j + 1) (and64_lt _ _) (by omega) (by rw [e]; exact clear_low h0 hd)
      omega
theorem bytesG_len : ∀ (c : List Nat) (i : Nat), (∀ w ∈ c, w < W64) → (bytesG i c).length ≤ 64 * c.length
  | [], _, _ => by simp [bytesG]
  | w :: t, i, h => by
    have h1 := memF_len i w w 0 (h w (by simp)) (by omega) (by simp)
    have h2 := bytesG_len t (i + 1) fun x hx => h x (by simp [hx])
    simp only [bytesG, List.length_append, List.length_cons]; omega
theorem bytesF_len {c : List Nat} (h : c.length = 4) (hw : ∀ w ∈ c, w < W64) : (bytesF c).length ≤ 256 := by
  have := bytesG_len c 0 hw; unfold bytesF; omega
theorem mem_step {L rest : List UInt8} {n : Nat} {a : UInt8} (h : L.drop n = a :: rest) : ∃ hn : n < L.length, L[n] = a ∧ L.drop (n + 1) = rest := by
  have hn : n < L.length := by
    rcases Nat.lt_or_ge n L.length with h' | h'
    · exact h'
    · rw [List.drop_eq_nil_of_le h'] at h; cases h
  rw [List.drop_eq_getElem_cons hn] at h
  injection h with h1 h2
  exact ⟨hn, h1, h2⟩
/-- A set of bytes at a block that no longer changes. -/
def ClsAt (G : Ghost) (b : Nat) (c : List Nat) : Prop := ∀ (i : Nat) (v : Value), (c.map u64V)[i]? = some v → gcell G ⟨b, i, none⟩ = some v
theorem ClsAt.mono {G G' : Ghost} (h : G.le G') {b : Nat} {c : List Nat} (hc : ClsAt G b c) : ClsAt G' b c := fun i v hv => gcell_mono h (hc i v hv)
theorem ClsAt.whole {G : Ghost} {b : Nat} {c : List Nat} (hc : ClsAt G b c) : ∀ (j : Nat) (u : Value), (c.map u64V)[j]? = some u → gcell G ((⟨b, 0, none⟩ : Addr).add j) = some u := fun j u hj => by
  have hadd : ((⟨b, 0, none⟩ : Addr).add j) = ⟨b, j, none⟩ := by
    unfold Addr.add; split
    · rename_i h0; simp [h0]
    · simp
  rw [hadd]; exact hc j u hj
theorem memF_zero (i f : Nat) : memF i f 0 = [] := by cases f <;> simp [memF]


/-! ### expressions -/
structure NodeV where
  kind : Int
  c : List Nat
  l : Int
  r : Int
  mn : Int
  mx : Int
def nodeC (n : NodeV) : List Value := .int .i64 n.kind :: n.c.map u64V ++ [.int .i64 n.l, .int .i64 n.r, .int .i64 n.mn, .int .i64 n.mx]
def ClsOk (c : List Nat) : Prop := c.length = 4 ∧ ∀ x ∈ c, x < W64
def NodeR (_ : Ghost) (cs : List Value) (n : NodeV) : Prop := cs = nodeC n ∧ ClsOk n.c
def Rx (G : Ghost) (v : Value) (l : List NodeV) : Prop := LstR 9 NodeR G v l
theorem Rx.mono {G G' : Ghost} (h : G.le G') {v : Value} {l : List NodeV} (hl : Rx G v l) : Rx G' v l := LstR.mono (R := NodeR) (G := G) (G' := G') (fun _ _ h => h) h hl
def arF (k : Int) : Nat := if k = 4 ∨ k = 5 ∨ k = 6 then 2 else if k = 7 ∨ k = 8 then 1 else 0
def noC : List Nat := [0, 0, 0, 0]
def leafN (k : Int) (c : List Nat) : NodeV := ⟨k, c, 0, 0, 0, 0⟩
def binN (k : Int) (l r : Int) : NodeV := ⟨k, noC, l, r, 0, 0⟩

/-! ### the parser: what is left of the text is what stands from the index on -/
abbrev Er := Int × Nat
structure PS where
  p : Nat
  nodes : List NodeV
def isB (s : List UInt8) (p : Nat) (b : UInt8) : Bool := s[p]? == some b
def unexp (s : List UInt8) (p : Nat) : Er := if p = s.length then (21, p) else (20, p)
def plainB (b : UInt8) : Bool := decide (32 < b.toNat) && decide (b.toNat < 127) && !(([33, 38, 40, 41, 42, 43, 45, 46, 63, 91, 92, 93, 94, 123, 124, 125, 126] : List UInt8).contains b)
def hexP (s : List UInt8) (p : Nat) : Except Er (UInt8 × Nat) :=
  match s[p]? with
  | none => .error (unexp s p)
  | some x => match hexF x with
    | some v => .ok (v, p + 1)
    | none => .error (unexp s p)
def charP (s : List UInt8) (p : Nat) : Except Er (UInt8 × Nat) :=
  if isB s p 92 = true then
    if isB s (p + 1) 120 = true then
      match hexP s (p + 2) with
      | .error e => .error e
      | .ok (h, p2) => match hexP s p2 with
        | .error e => .error e
        | .ok (l, p3) => .ok (16 * h + l, p3)
    else .error (unexp s (p + 1))
  else match s[p]? with
    | none => .error (unexp s p)
    | some x => if plainB x = true then .ok (x, p + 1) else .error (unexp s p)
def rangeF (lo hi : UInt8) : List Nat := ofF (bytesFrom lo.toNat (hi.toNat + 1 - lo.toNat))
/-- The rest of a class; the first number bounds the rounds. -/
def classL (s : List UInt8) : Nat → List Nat → Nat → Option (Except Er (List Nat × Nat))
  | 0, _, _ => none
  | f + 1, c, p =>
    if isB s p 93 = true then some (.ok (c, p + 1)) else
    match charP s p with
    | .error e => some (.error e)
    | .ok (lo, p2) =>
      if isB s p2 45 = true then
        match charP s (p2 + 1) with
        | .error e => some (.error e)
        | .ok (hi, p3) => if hi < lo then some (.error (20, p2 + 1)) else classL s f (unionF c (rangeF lo hi)) p3
      else classL s f (unionF c (rangeF lo lo)) p2
def classP (s : List UInt8) (f : Nat) (p : Nat) : Option (Except Er (List Nat × Nat)) :=
  if isB s p 94 = true then (classL s f noC (p + 1)).map fun
    | .error e => .error e
    | .ok (c, q) => .ok (notF c, q)
  else classL s f noC p
def isDig (b : UInt8) : Bool := decide (48 ≤ b.toNat) && decide (b.toNat ≤ 57)
def digsF : List UInt8 → List UInt8
  | [] => []
  | x :: t => if x = 48 then [48] else (x :: t).takeWhile isDig
def valF (l : List UInt8) : Nat := l.foldl (fun n b => 10 * n + (b.toNat - 48)) 0
def numP (s : List UInt8) (p : Nat) : Except Er (Nat × Nat) :=
  if (digsF (s.drop p)).length = 0 then .error (unexp s p)
  else if 2 < (digsF (s.drop p)).length then .error (2, p)
  else if 16 < valF (digsF (s.drop p)) then .error (2, p)
  else .ok (valF (digsF (s.drop p)), p + (digsF (s.drop p)).length)
def expP (s : List UInt8) (p : Nat) (b : UInt8) : Except Er Nat := if isB s p b = true then .ok (p + 1) else .error (unexp s p)
def boundsP (s : List UInt8) (p : Nat) : Except Er (Int × Int × Nat) :=
  match numP s p with
  | .error e => .error e
  | .ok (a, p1) => match expP s p1 44 with
    | .error e => .error e
    | .ok p2 =>
      if isB s p2 125 = true then .ok ((a : Int), -1, p2 + 1) else
      match numP s p2 with
      | .error e => .error e
      | .ok (b, p3) =>
        if b < a then .error (20, p2) else
        match expP s p3 125 with
        | .error e => .error e
        | .ok p4 => .ok ((a : Int), (b : Int), p4)
/-- The bounds behind an item, if there are some. -/
def sufP (s : List UInt8) (p : Nat) : Except Er (Option (Int × Int × Nat)) :=
  if isB s p 42 = true then .ok (some (0, -1, p + 1))
  else if isB s p 43 = true then .ok (some (1, -1, p + 1))
  else if isB s p 63 = true then .ok (some (0, 1, p + 1))
  else if isB s p 123 = true then match boundsP s (p + 1) with
    | .error e => .error e
    | .ok (a, b, q) => .ok (some (a, b, q))
  else .ok none
def PS.emit (st : PS) (n : NodeV) : PS := ⟨st.p, st.nodes ++ [n]⟩
def PS.at (st : PS) (p : Nat) : PS := ⟨p, st.nodes⟩
def PS.last (st : PS) : Int := (st.nodes.length : Int)
abbrev PRes := Option (Except Er (Int × PS))
/-- The end of an item's place in a sequence. -/
def stopB (s : List UInt8) (p : Nat) : Bool := decide (s.length ≤ p) || isB s p 124 || isB s p 38 || isB s p 41
mutual
def altF (s : List UInt8) : Nat → PS → PRes
  | 0, _ => none
  | f + 1, st => match andF s f st with
    | none => none
    | some (.error e) => some (.error e)
    | some (.ok (l, st1)) => altL s f l st1
def altL (s : List UInt8) : Nat → Int → PS → PRes
  | 0, _, _ => none
  | f + 1, l, st => if isB s st.p 124 = true then match andF s f (st.at (st.p + 1)) with
      | none => none
      | some (.error e) => some (.error e)
      | some (.ok (r, st1)) => altL s f st1.last (st1.emit (binN 5 l r))
    else some (.ok (l, st))
def andF (s : List UInt8) : Nat → PS → PRes
  | 0, _ => none
  | f + 1, st => match catF s f st with
    | none => none
    | some (.error e) => some (.error e)
    | some (.ok (l, st1)) => andL s f l st1
def andL (s : List UInt8) : Nat → Int → PS → PRes
  | 0, _, _ => none
  | f + 1, l, st => if isB s st.p 38 = true then match catF s f (st.at (st.p + 1)) with
      | none => none
      | some (.error e) => some (.error e)
      | some (.ok (r, st1)) => andL s f st1.last (st1.emit (binN 6 l r))
    else some (.ok (l, st))
def catF (s : List UInt8) : Nat → PS → PRes
  | 0, _ => none
  | f + 1, st => match itemF s f st with
    | none => none
    | some (.error e) => some (.error e)
    | some (.ok (l, st1)) => catL s f l st1
def catL (s : List UInt8) : Nat → Int → PS → PRes
  | 0, _, _ => none
  | f + 1, l, st => if stopB s st.p = true then some (.ok (l, st)) else match itemF s f st with
      | none => none
      | some (.error e) => some (.error e)
      | some (.ok (r, st1)) => catL s f st1.last (st1.emit (binN 4 l r))
def itemF (s : List UInt8) : Nat → PS → PRes
  | 0, _ => none
  | f + 1, st => if isB s st.p 126 = true then match itemF s f (st.at (st.p + 1)) with
      | none => none
      | some (.error e) => some (.error e)
      | some (.ok (x, st1)) => some (.ok (st1.last, st1.emit ⟨7, noC, x, 0, 0, 0⟩))
    else match atomF s f st with
      | none => none
      | some (.error e) => some (.error e)
      | some (.ok (x, st1)) => itemL s f x st1
def itemL (s : List UInt8) : Nat → Int → PS → PRes
  | 0, _, _ => none
  | f + 1, x, st => match sufP s st.p with
    | .error e => some (.error e)
    | .ok none => some (.ok (x, st))
    | .ok (some (a, b, q)) => itemL s f st.last ((st.at q).emit ⟨8, noC, x, 0, a, b⟩)
def atomF (s : List UInt8) : Nat → PS → PRes
  | 0, _ => none
  | f + 1, st =>
    if isB s st.p 46 = true then some (.ok (st.last, (st.at (st.p + 1)).emit (leafN 3 (rangeF 0 255))))
    else if isB s st.p 33 = true then some (.ok (st.last, (st.at (st.p + 1)).emit (leafN 1 noC)))
    else if isB s st.p 91 = true then match classP s f (st.p + 1) with
      | none => none
      | some (.error e) => some (.error e)
      | some (.ok (c, q)) => some (.ok (st.last, (st.at q).emit (leafN 3 c)))
    else if isB s st.p 40 = true then
      if isB s (st.p + 1) 41 = true then some (.ok (st.last, (st.at (st.p + 2)).emit (leafN 2 noC)))
      else match altF s f (st.at (st.p + 1)) with
        | none => none
        | some (.error e) => some (.error e)
        | some (.ok (x, st1)) => match expP s st1.p 41 with
          | .error e => some (.error e)
          | .ok q => some (.ok (x, st1.at q))
    else match charP s st.p with
      | .error e => some (.error e)
      | .ok (b, q) => some (.ok (st.last, (st.at q).emit (leafN 3 (rangeF b b))))
end
/-- Parse: the nodes, or an error with its offset. -/
def endP (s : List UInt8) : Except Er (Int × PS) → Except Er (List NodeV)
  | .error e => .error e
  | .ok (_, st) => if st.p < s.length then .error (unexp s st.p) else if 200 < st.nodes.length then .error (2, s.length) else .ok st.nodes
def parseP (s : List UInt8) (f : Nat) : Option (Except Er (List NodeV)) :=
  if 4000 < s.length then some (.error (2, 0)) else (altF s f ⟨0, []⟩).map (endP s)
end Go.Proofs.YtkmgbcjfidpmgaaGreatDoor
