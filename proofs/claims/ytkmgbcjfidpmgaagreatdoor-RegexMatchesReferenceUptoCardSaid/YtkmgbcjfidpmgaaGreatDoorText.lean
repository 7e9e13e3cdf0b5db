/- Package regex: the canonical text of a tree, and that it is parsed to the tree's nodes. -/
import Derived.Test.YtkmgbcjfidpmgaaGreatDoorPlain
import Derived.Test.YtkmgbcjfidpmgaaGreatDoorLang
namespace Go.Proofs.YtkmgbcjfidpmgaaGreatDoor
open Go Go.Ex

theorem u8_all {p : UInt8 → Prop} (h : ∀ n : Fin 256, p (UInt8.ofNat n.val)) (x : UInt8) : p x := by
  have := h ⟨x.toNat, x.toNat_lt⟩
  simpa using this

/-! ### sets of bytes by their members -/
theorem has_testBit (c : List Nat) (x : UInt8) : hasF c x = (c.getD (x.toNat / 64) 0 % W64).testBit (x.toNat % 64) := by
  have hs : x.toNat % 64 < 64 := Nat.mod_lt _ (by decide)
  have hlt : 2 ^ (x.toNat % 64) < W64 := Nat.pow_lt_pow_right (by decide) hs
  unfold hasF and64
  rw [Nat.mod_eq_of_lt hlt]
  generalize c.getD (x.toNat / 64) 0 % W64 = w
  generalize x.toNat % 64 = k
  have hk : (w &&& 2 ^ k).testBit k = w.testBit k := by rw [Nat.testBit_and, Nat.testBit_two_pow_self, Bool.and_true]
  rw [← hk, Bool.eq_iff_iff, decide_eq_true_eq]
  constructor
  · intro hne
    obtain ⟨i, hi⟩ := Nat.exists_testBit_of_ne_zero hne
    have hi2 := hi
    rw [Nat.testBit_and, Nat.testBit_two_pow, Bool.and_eq_true, decide_eq_true_eq] at hi2
    obtain rfl := hi2.2
    exact hi
  · intro h hz
    rw [hz, Nat.zero_testBit] at h; cases h
theorem cls_ext {a b : List Nat} (ha : ClsOk a) (hb : ClsOk b) (h : ∀ x, hasF a x = hasF b x) : a = b := by
  apply List.ext_getElem (by rw [ha.1, hb.1])
  intro i h1 h2
  have hi : i < 4 := by rw [← ha.1]; exact h1
  apply Nat.eq_of_testBit_eq
  intro k
  have w1 := ha.2 a[i] (List.getElem_mem h1)
  have w2 := hb.2 b[i] (List.getElem_mem h2)
  rcases Nat.lt_or_ge k 64 with hk | hk
  · have hx := h (UInt8.ofNat (64 * i + k))
    rw [has_testBit, has_testBit] at hx
    have e : (UInt8.ofNat (64 * i + k)).toNat = 64 * i + k := by rw [UInt8.toNat_ofNat']; omega
    rw [e, show (64 * i + k) / 64 = i by omega, show (64 * i + k) % 64 = k by omega, List.getD_eq_getElem?_getD, List.getD_eq_getElem?_getD, List.getElem?_eq_getElem h1, List.getElem?_eq_getElem h2] at hx
    simp only [Option.getD_some] at hx
    rwa [Nat.mod_eq_of_lt w1, Nat.mod_eq_of_lt w2] at hx
  · have hw : W64 ≤ 2 ^ k := Nat.pow_le_pow_right (n := 2) (by decide) hk
    rw [Nat.testBit_lt_two_pow (Nat.lt_of_lt_of_le w1 hw), Nat.testBit_lt_two_pow (Nat.lt_of_lt_of_le w2 hw)]
theorem noC_ok : ClsOk noC := ⟨rfl, by decide⟩
theorem has_noC (x : UInt8) : hasF noC x = false := by revert x; exact u8_all (by decide +kernel)
theorem set_lt {l : List Nat} {i v : Nat} (h : ∀ x ∈ l, x < W64) (hv : v < W64) : ∀ x ∈ l.set i v, x < W64 := fun x hx => by
  rcases List.mem_or_eq_of_mem_set hx with h1 | h1
  · exact h x h1
  · omega
theorem addF_ok {c : List Nat} (h : ClsOk c) (x : UInt8) : ClsOk (addF c x) := ⟨by rw [addF_len]; exact h.1, set_lt h.2 (or64_lt _ _)⟩
theorem has_add {c : List Nat} (h : ClsOk c) (x z : UInt8) : hasF (addF c x) z = (hasF c z || decide (z = x)) := by
  have hx := x.toNat_lt
  have hz := z.toNat_lt
  have hl := h.1
  rw [has_testBit, has_testBit]
  unfold addF
  rw [List.getD_eq_getElem?_getD, List.getElem?_set]
  by_cases hd : x.toNat / 64 = z.toNat / 64
  · rw [if_pos hd, if_pos (by omega), hd]
    simp only [Option.getD_some]
    have hlt : 2 ^ (x.toNat % 64) < W64 := Nat.pow_lt_pow_right (by decide) (Nat.mod_lt _ (by decide))
    rw [Nat.mod_eq_of_lt (or64_lt _ _)]
    unfold or64
    rw [Nat.mod_eq_of_lt hlt, Nat.testBit_or, Nat.testBit_two_pow]
    congr 1
    rw [Bool.eq_iff_iff, decide_eq_true_eq, decide_eq_true_eq]
    constructor
    · intro h2; exact UInt8.toNat_inj.1 (by omega)
    · rintro rfl; rfl
  · rw [if_neg hd]
    have : ¬ z = x := fun h2 => hd (by rw [h2])
    simp [this]
theorem fold_ok : ∀ (l : List UInt8) {c : List Nat}, ClsOk c → ClsOk (l.foldl addF c)
  | [], _, h => h
  | x :: t, _, h => fold_ok t (addF_ok h x)
theorem has_fold : ∀ (l : List UInt8) {c : List Nat}, ClsOk c → ∀ z, hasF (l.foldl addF c) z = (hasF c z || l.contains z)
  | [], _, _, z => by simp
  | x :: t, c, h, z => by
    rw [List.foldl_cons, has_fold t (addF_ok h x), has_add h, Bool.or_assoc, List.contains_cons]
    congr 2
theorem ofF_ok (l : List UInt8) : ClsOk (ofF l) := fold_ok l noC_ok
theorem has_of (l : List UInt8) (z : UInt8) : hasF (ofF l) z = l.contains z := by
  have := has_fold l noC_ok z
  rw [has_noC, Bool.false_or] at this
  exact this
theorem has_range (lo hi z : UInt8) : hasF (rangeF lo hi) z = (decide (lo ≤ z) && decide (z ≤ hi)) := by
  have h1 := lo.toNat_lt
  have h2 := hi.toNat_lt
  have h3 := z.toNat_lt
  unfold rangeF
  rw [has_of, Bool.eq_iff_iff, List.contains_iff_mem, Bool.and_eq_true, decide_eq_true_eq, decide_eq_true_eq, UInt8.le_iff_toNat_le, UInt8.le_iff_toNat_le]
  unfold bytesFrom
  rw [List.mem_map]
  constructor
  · rintro ⟨i, hi, rfl⟩
    rw [List.mem_range] at hi
    rw [UInt8.toNat_ofNat']; omega
  · rintro ⟨h4, h5⟩
    exact ⟨z.toNat - lo.toNat, List.mem_range.2 (by omega), by rw [show lo.toNat + (z.toNat - lo.toNat) = z.toNat by omega]; simp⟩
theorem range_ok' (lo hi : UInt8) : ClsOk (rangeF lo hi) := ofF_ok _
theorem zip_get {op : Nat → Nat → Nat} {a b : List Nat} (ha : a.length = 4) (hb : b.length = 4) {i : Nat} (hi : i < 4) : (List.zipWith op a b).getD i 0 = op (a.getD i 0) (b.getD i 0) := by
  rw [List.getD_eq_getElem?_getD, List.getElem?_zipWith, List.getD_eq_getElem?_getD, List.getD_eq_getElem?_getD, List.getElem?_eq_getElem (by omega), List.getElem?_eq_getElem (by omega)]; rfl
theorem zip_lt {op : Nat → Nat → Nat} (h : ∀ a b, op a b < W64) : ∀ (a b : List Nat), ∀ x ∈ List.zipWith op a b, x < W64
  | [], _, x, hx => by simp at hx
  | _ :: _, [], x, hx => by simp at hx
  | a :: as, b :: bs, x, hx => by
    rw [List.zipWith_cons_cons] at hx
    rcases List.mem_cons.1 hx with rfl | hx
    · exact h a b
    · exact zip_lt h as bs x hx
theorem union_ok' {a b : List Nat} (ha : ClsOk a) (hb : ClsOk b) : ClsOk (unionF a b) := ⟨unionF_len ha.1 hb.1, zip_lt or64_lt a b⟩
theorem not_ok' {a : List Nat} (ha : ClsOk a) : ClsOk (notF a) := ⟨notF_len ha.1, zip_lt (fun _ _ => xor64_lt _ _) a a⟩
theorem has_union {a b : List Nat} (ha : ClsOk a) (hb : ClsOk b) (z : UInt8) : hasF (unionF a b) z = (hasF a z || hasF b z) := by
  have h3 := z.toNat_lt
  rw [has_testBit, has_testBit, has_testBit]
  unfold unionF
  rw [zip_get ha.1 hb.1 (by omega)]
  rw [Nat.mod_eq_of_lt (or64_lt _ _)]
  unfold or64
  rw [Nat.testBit_or]
theorem has_not {a : List Nat} (ha : ClsOk a) (z : UInt8) : hasF (notF a) z = !hasF a z := by
  have h3 := z.toNat_lt
  rw [has_testBit, has_testBit]
  unfold notF
  rw [zip_get ha.1 ha.1 (by omega)]
  rw [Nat.mod_eq_of_lt (xor64_lt _ _)]
  unfold xor64
  rw [Nat.testBit_xor, show (18446744073709551615 : Nat) % W64 = 2 ^ 64 - 1 by decide, Nat.testBit_two_pow_sub_one]
  simp [Nat.mod_lt]

/-! ### texts -/
def lowHex (n : Nat) : UInt8 := ([48, 49, 50, 51, 52, 53, 54, 55, 56, 57, 97, 98, 99, 100, 101, 102] : List UInt8).getD n 0
def charT (b : UInt8) : List UInt8 := if plainB b = true then [b] else [92, 120, lowHex (b.toNat / 16), lowHex (b.toNat % 16)]
def digT (n : Nat) : List UInt8 := if n < 10 then [UInt8.ofNat (48 + n)] else [UInt8.ofNat (48 + n / 10), UInt8.ofNat (48 + n % 10)]
def sufT (mn mx : Int) : List UInt8 :=
  if mn = 0 ∧ mx = -1 then [42] else if mn = 1 ∧ mx = -1 then [43] else if mn = 0 ∧ mx = 1 then [63]
  else if mx = -1 then 123 :: (digT mn.toNat ++ [44, 125]) else 123 :: (digT mn.toNat ++ 44 :: (digT mx.toNat ++ [125]))
/-- How many bytes go on from x, one by one. -/
def runF : UInt8 → List UInt8 → Nat
  | _, [] => 0
  | x, y :: t => if y = x + 1 then runF y t + 1 else 0
def runsT : Nat → List UInt8 → List UInt8
  | 0, _ => []
  | _ + 1, [] => []
  | f + 1, x :: t => charT x ++ ((if 2 < runF x t + 1 then [45] else []) ++ ((if 1 < runF x t + 1 then charT ((x :: t).getD (runF x t) 0) else []) ++ runsT f (t.drop (runF x t))))
def membF (c : List Nat) : List UInt8 := ((List.range 256).map UInt8.ofNat).filter (hasF c)
def classT (m : List UInt8) : List UInt8 :=
  if m.length = 1 then charT (m.headD 0) else if m.length = 256 then [46] else 91 :: (runsT m.length m ++ [93])
def rank : Rg → Nat
  | .alt _ _ => 0
  | .and _ _ => 1
  | .cat _ _ => 2
  | .not _ => 3
  | _ => 4
def par (k r : Nat) (t : List UInt8) : List UInt8 := if r < k then 40 :: (t ++ [41]) else t
def txt : Rg → List UInt8
  | .none => [33]
  | .eps => [40, 41]
  | .cls c => classT (membF c)
  | .cat a b => par 2 (rank a) (txt a) ++ par 3 (rank b) (txt b)
  | .alt a b => txt a ++ 124 :: par 1 (rank b) (txt b)
  | .and a b => par 1 (rank a) (txt a) ++ 38 :: par 2 (rank b) (txt b)
  | .not a => 126 :: par 3 (rank a) (txt a)
  | .rep mn mx a => par 4 (rank a) (txt a) ++ sufT mn mx
def sizeT : Rg → Nat
  | .cat a b | .alt a b | .and a b => sizeT a + sizeT b + 1
  | .not a | .rep _ _ a => sizeT a + 1
  | _ => 1
def nodesT (o : Nat) : Rg → List NodeV
  | .none => [leafN 1 noC]
  | .eps => [leafN 2 noC]
  | .cls c => [leafN 3 c]
  | .cat a b => nodesT o a ++ nodesT (o + sizeT a) b ++ [binN 4 ((o + sizeT a : Nat) - 1) ((o + sizeT a + sizeT b : Nat) - 1)]
  | .alt a b => nodesT o a ++ nodesT (o + sizeT a) b ++ [binN 5 ((o + sizeT a : Nat) - 1) ((o + sizeT a + sizeT b : Nat) - 1)]
  | .and a b => nodesT o a ++ nodesT (o + sizeT a) b ++ [binN 6 ((o + sizeT a : Nat) - 1) ((o + sizeT a + sizeT b : Nat) - 1)]
  | .not a => nodesT o a ++ [⟨7, noC, (o + sizeT a : Nat) - 1, 0, 0, 0⟩]
  | .rep mn mx a => nodesT o a ++ [⟨8, noC, (o + sizeT a : Nat) - 1, 0, mn, mx⟩]
theorem nodesT_len : ∀ (t : Rg) (o : Nat), (nodesT o t).length = sizeT t
  | .none, _ => rfl
  | .eps, _ => rfl
  | .cls _, _ => rfl
  | .cat a b, o => by simp [nodesT, sizeT, nodesT_len a, nodesT_len b]; omega
  | .alt a b, o => by simp [nodesT, sizeT, nodesT_len a, nodesT_len b]; omega
  | .and a b, o => by simp [nodesT, sizeT, nodesT_len a, nodesT_len b]; omega
  | .not a, o => by simp [nodesT, sizeT, nodesT_len a]
  | .rep _ _ a, o => by simp [nodesT, sizeT, nodesT_len a]
theorem sizeT_pos : ∀ t : Rg, 0 < sizeT t := by intro t; cases t <;> simp [sizeT]
/-- The bounds and classes of a tree that has a text. -/
def TreeOk : Rg → Prop
  | .cls c => ClsOk c
  | .cat a b | .alt a b | .and a b => TreeOk a ∧ TreeOk b
  | .not a => TreeOk a
  | .rep mn mx a => 0 ≤ mn ∧ mn ≤ 16 ∧ mx ≤ 16 ∧ (mx = -1 ∨ mn ≤ mx) ∧ TreeOk a
  | _ => True
theorem TreeOk.rg : ∀ {t : Rg}, TreeOk t → RgOk t
  | .none, _ => trivial
  | .eps, _ => trivial
  | .cls _, _ => trivial
  | .cat _ _, h => ⟨h.1.rg, h.2.rg⟩
  | .alt _ _, h => ⟨h.1.rg, h.2.rg⟩
  | .and _ _, h => ⟨h.1.rg, h.2.rg⟩
  | .not a, h => TreeOk.rg (t := a) h
  | .rep mn mx a, h => ⟨h.1, by have := h.2.2.2.1; omega, h.2.2.2.2.rg⟩

/-! ### what stands at an index -/
theorem at_cons {s : List UInt8} {p : Nat} {x : UInt8} {l : List UInt8} (h : s.drop p = x :: l) : s[p]? = some x ∧ s.drop (p + 1) = l ∧ p < s.length := by
  have hlt : p < s.length := by
    rcases Nat.lt_or_ge p s.length with h' | h'
    · exact h'
    · rw [List.drop_eq_nil_of_le h'] at h; cases h
  rw [List.drop_eq_getElem_cons hlt] at h
  injection h with h1 h2
  exact ⟨by rw [List.getElem?_eq_getElem hlt, h1], h2, hlt⟩
theorem at_nil {s : List UInt8} {p : Nat} (h : s.drop p = []) : s[p]? = none ∧ s.length ≤ p := by
  have := congrArg List.length h
  rw [List.length_drop] at this; simp only [List.length_nil] at this
  exact ⟨List.getElem?_eq_none (by omega), by omega⟩
theorem adv {s t rest : List UInt8} {p : Nat} (h : s.drop p = t ++ rest) : s.drop (p + t.length) = rest := by
  rw [← List.drop_drop, h, List.drop_left]
theorem isB_cons {s : List UInt8} {p : Nat} {x b : UInt8} {l : List UInt8} (h : s.drop p = x :: l) : isB s p b = decide (x = b) := by
  unfold isB; rw [(at_cons h).1]; rw [Bool.eq_iff_iff]; simp
theorem isB_nil {s : List UInt8} {p : Nat} {b : UInt8} (h : s.drop p = []) : isB s p b = false := by
  unfold isB; rw [(at_nil h).1]; rfl
/-- The byte ahead of l is none of bs. -/
def noHd (bs : List UInt8) (l : List UInt8) : Prop := ∀ x t, l = x :: t → x ∉ bs
theorem isB_no {s : List UInt8} {p : Nat} {bs l : List UInt8} {b : UInt8} (h : s.drop p = l) (hn : noHd bs l) (hb : b ∈ bs) : isB s p b = false := by
  cases l with
  | nil => exact isB_nil h
  | cons x t => rw [isB_cons h, decide_eq_false_iff_not]; rintro rfl; exact hn x t rfl hb
theorem plain_not : ∀ x : UInt8, plainB x = true → x ∉ ([33, 38, 40, 41, 42, 43, 45, 46, 63, 91, 92, 93, 94, 123, 124, 125, 126] : List UInt8) := u8_all (by decide +kernel)
theorem lowHex_1 : ∀ x : UInt8, hexF (lowHex (x.toNat / 16)) = some (UInt8.ofNat (x.toNat / 16)) := u8_all (by decide +kernel)
theorem lowHex_2 : ∀ x : UInt8, hexF (lowHex (x.toNat % 16)) = some (UInt8.ofNat (x.toNat % 16)) := u8_all (by decide +kernel)
theorem hex_join : ∀ x : UInt8, 16 * UInt8.ofNat (x.toNat / 16) + UInt8.ofNat (x.toNat % 16) = x := u8_all (by decide +kernel)
theorem charT_hd (x : UInt8) (rest : List UInt8) : noHd [33, 38, 40, 41, 42, 43, 45, 46, 63, 91, 93, 94, 123, 124, 125, 126] (charT x ++ rest) := by
  intro y t h
  unfold charT at h
  split at h
  · rename_i hp
    injection h with h1 _
    have := plain_not x hp
    rw [← h1]
    exact fun hm => this ((by decide : ∀ b ∈ ([33, 38, 40, 41, 42, 43, 45, 46, 63, 91, 93, 94, 123, 124, 125, 126] : List UInt8), b ∈ ([33, 38, 40, 41, 42, 43, 45, 46, 63, 91, 92, 93, 94, 123, 124, 125, 126] : List UInt8)) x hm)
  · injection h with h1 _
    rw [← h1]; decide
theorem charT_pos (x : UInt8) : 0 < (charT x).length := by unfold charT; split <;> simp
theorem charP_text {s rest : List UInt8} {p : Nat} {x : UInt8} (h : s.drop p = charT x ++ rest) : charP s p = .ok (x, p + (charT x).length) := by
  unfold charT at h ⊢
  split at h
  · rename_i hp
    rw [if_pos hp]
    obtain ⟨h1, h2, _⟩ := at_cons h
    unfold charP
    rw [if_neg (by rw [isB_cons h, decide_eq_true_eq]; rintro rfl; exact plain_not 92 hp (by decide)), h1]
    simp only [hp, if_true]; rfl
  · rename_i hp
    rw [if_neg hp]
    obtain ⟨h1, h2, _⟩ := at_cons h
    obtain ⟨h3, h4, _⟩ := at_cons h2
    obtain ⟨h5, h6, _⟩ := at_cons h4
    obtain ⟨h7, h8, _⟩ := at_cons h6
    unfold charP
    rw [if_pos (by rw [isB_cons h]; rfl), if_pos (by rw [isB_cons h2]; rfl)]
    have e1 : hexP s (p + 2) = .ok (UInt8.ofNat (x.toNat / 16), p + 2 + 1) := by
      unfold hexP; rw [show p + 2 = p + 1 + 1 by omega, h5]; simp only [lowHex_1]
    have e2 : hexP s (p + 2 + 1) = .ok (UInt8.ofNat (x.toNat % 16), p + 2 + 1 + 1) := by
      unfold hexP; rw [show p + 2 + 1 = p + 1 + 1 + 1 by omega, h7]; simp only [lowHex_2]
    rw [e1]; dsimp only; rw [e2]; dsimp only; rw [hex_join]; rfl

/-! ### classes -/
/-- x stands after which all go up. -/
def Asc : List UInt8 → Prop := List.Pairwise (· < ·)
theorem runF_le : ∀ (x : UInt8) (t : List UInt8), runF x t ≤ t.length
  | _, [] => Nat.le_refl _
  | x, y :: t => by
    rw [runF]; split
    · have := runF_le y t; simp only [List.length_cons]; omega
    · simp
/-- The bytes of a run are those from its first to its last. -/
theorem run_mem : ∀ (t : List UInt8) (x : UInt8), Asc (x :: t) → (((x :: t).getD (runF x t) 0).toNat = x.toNat + runF x t) ∧ ∀ z : UInt8, z ∈ x :: t.take (runF x t) ↔ x.toNat ≤ z.toNat ∧ z.toNat ≤ x.toNat + runF x t
  | [], x, _ => by
    refine ⟨rfl, fun z => ?_⟩
    simp only [runF, List.take_nil, List.mem_singleton, Nat.add_zero]
    constructor
    · rintro rfl; exact ⟨Nat.le_refl _, Nat.le_refl _⟩
    · intro h; exact UInt8.toNat_inj.1 (by omega)
  | y :: t, x, h => by
    have hxy : x < y := (List.pairwise_cons.1 h).1 y (by simp)
    have ht : Asc (y :: t) := (List.pairwise_cons.1 h).2
    rw [runF]
    by_cases hy : y = x + 1
    · rw [if_pos hy]
      obtain ⟨i1, i2⟩ := run_mem t y ht
      have hyn : y.toNat = x.toNat + 1 := by
        rw [UInt8.lt_iff_toNat_lt] at hxy
        have h1 := y.toNat_lt
        have h2 : y.toNat = (x.toNat + 1) % 256 := by rw [hy, UInt8.toNat_add]; rfl
        have h3 := x.toNat_lt
        omega
      refine ⟨?_, fun z => ?_⟩
      · rw [List.getD_cons_succ, i1]; omega
      · rw [List.take_succ_cons, List.mem_cons, i2 z]
        constructor
        · rintro (rfl | ⟨h1, h2⟩) <;> omega
        · intro h1
          rcases Nat.lt_or_ge x.toNat z.toNat with h2 | h2
          · exact .inr ⟨by omega, by omega⟩
          · exact .inl (UInt8.toNat_inj.1 (by omega))
    · rw [if_neg hy]
      refine ⟨rfl, fun z => ?_⟩
      simp only [List.take_zero, List.mem_singleton, Nat.add_zero]
      constructor
      · rintro rfl; exact ⟨Nat.le_refl _, Nat.le_refl _⟩
      · intro h; exact UInt8.toNat_inj.1 (by omega)
/-- The text of the runs is read as their bytes. -/
theorem classL_text {s rest : List UInt8} : ∀ (g : Nat) (m : List UInt8) (c : List Nat) (p : Nat), m.length ≤ g → Asc m → ClsOk c → s.drop p = runsT g m ++ 93 :: rest →
    ∃ f0, ∀ f, f0 ≤ f → ∃ c2, classL s f c p = some (.ok (c2, p + (runsT g m).length + 1)) ∧ ClsOk c2 ∧ ∀ z, hasF c2 z = (hasF c z || m.contains z)
  | g, [], c, p, _, _, hc, h => by
    have e : runsT g [] = [] := by cases g <;> rfl
    rw [e] at h ⊢
    refine ⟨1, fun f hf => ⟨c, ?_, hc, fun z => by simp⟩⟩
    obtain ⟨f, rfl⟩ : ∃ k, f = k + 1 := ⟨f - 1, by omega⟩
    rw [classL, if_pos (by rw [isB_cons h]; rfl)]; rfl
  | 0, x :: t, _, _, hg, _, _, _ => by simp at hg
  | g + 1, x :: t, c, p, hg, hm, hc, h => by
    have hrl := runF_le x t
    obtain ⟨r1, r2⟩ := run_mem t x hm
    have ht : Asc (t.drop (runF x t)) := (List.pairwise_cons.1 hm).2.sublist (List.drop_sublist _ _)
    have hgl : (t.drop (runF x t)).length ≤ g := by rw [List.length_drop]; simp at hg; omega
    rw [runsT] at h ⊢
    have hxn := x.toNat_lt
    -- the first byte
    have a0 : s.drop p = charT x ++ ((if 2 < runF x t + 1 then [45] else []) ++ ((if 1 < runF x t + 1 then charT ((x :: t).getD (runF x t) 0) else []) ++ (runsT g (t.drop (runF x t)) ++ 93 :: rest))) := by
      rw [h]; simp only [List.append_assoc]
    have c0 := charP_text a0
    have d0 := adv a0
    have n93 : isB s p 93 = false := isB_no a0 (charT_hd x _) (by decide)
    have mem : ∀ z, (x :: t).contains z = ((x :: t.take (runF x t)).contains z || (t.drop (runF x t)).contains z) := fun z => by
      conv => lhs; rw [← List.take_append_drop (runF x t) t, ← List.cons_append, List.contains_append]
    have tail_hd : noHd [45] (runsT g (t.drop (runF x t)) ++ 93 :: rest) := by
      cases hd : t.drop (runF x t) with
      | nil => rw [show runsT g ([] : List UInt8) = [] by cases g <;> rfl]; intro y u hy; injection hy with h1 _; rw [← h1]; decide
      | cons y u =>
        cases g with
        | zero => rw [hd] at hgl; simp at hgl
        | succ g =>
          rw [runsT, List.append_assoc]
          intro z v hz hm2
          exact charT_hd y _ z v hz (by simp at hm2; rw [hm2]; decide)
    rcases Nat.lt_or_ge (runF x t) 1 with hr | hr
    · -- a single byte
      have hr0 : runF x t = 0 := by omega
      rw [if_neg (by omega), if_neg (by omega)] at d0 ⊢
      simp only [List.nil_append] at d0 ⊢
      obtain ⟨f0, hf0⟩ := classL_text g _ (unionF c (rangeF x x)) _ hgl ht (union_ok' hc (range_ok' _ _)) d0
      refine ⟨f0 + 1, fun f hf => ?_⟩
      obtain ⟨f, rfl⟩ : ∃ k, f = k + 1 := ⟨f - 1, by omega⟩
      obtain ⟨c2, e1, e2, e3⟩ := hf0 f (by omega)
      refine ⟨c2, ?_, e2, fun z => ?_⟩
      · rw [classL, n93, if_neg (by simp), c0]
        dsimp only
        rw [if_neg (by rw [isB_no d0 tail_hd (by decide)]; simp), e1, List.length_append]; congr 3; omega
      · rw [e3 z, has_union hc (range_ok' _ _), has_range, mem z, Bool.or_assoc]
        congr 2
        rw [Bool.eq_iff_iff, List.contains_iff_mem, r2 z, Bool.and_eq_true, decide_eq_true_eq, decide_eq_true_eq, UInt8.le_iff_toNat_le, UInt8.le_iff_toNat_le, hr0, Nat.add_zero]
    · rcases Nat.lt_or_ge (runF x t) 2 with hr2 | hr2
      · -- two bytes
        have hr1 : runF x t = 1 := by omega
        rw [if_neg (by omega), if_pos (by omega)] at d0 ⊢
        simp only [List.nil_append] at d0 ⊢
        have c1 := charP_text d0
        have d1 := adv d0
        have n93' : isB s (p + (charT x).length) 93 = false := isB_no d0 (charT_hd _ _) (by decide)
        obtain ⟨f0, hf0⟩ := classL_text g _ (unionF (unionF c (rangeF x x)) (rangeF ((x :: t).getD (runF x t) 0) ((x :: t).getD (runF x t) 0))) _ hgl ht (union_ok' (union_ok' hc (range_ok' _ _)) (range_ok' _ _)) d1
        refine ⟨f0 + 2, fun f hf => ?_⟩
        obtain ⟨f, rfl⟩ : ∃ k, f = k + 2 := ⟨f - 2, by omega⟩
        obtain ⟨c2, e1, e2, e3⟩ := hf0 f (by omega)
        refine ⟨c2, ?_, e2, fun z => ?_⟩
        · rw [classL, n93, if_neg (by simp), c0]
          dsimp only
          rw [if_neg (by rw [isB_no d0 (charT_hd _ _) (by decide)]; simp), classL, n93', if_neg (by simp), c1]
          dsimp only
          rw [if_neg (by rw [isB_no d1 tail_hd (by decide)]; simp), e1, List.length_append, List.length_append]; congr 3; omega
        · rw [e3 z, has_union (union_ok' hc (range_ok' _ _)) (range_ok' _ _), has_union hc (range_ok' _ _), has_range, has_range, mem z, Bool.or_assoc, Bool.or_assoc, ← Bool.or_assoc (_ && _)]
          congr 2
          rw [Bool.eq_iff_iff, List.contains_iff_mem, r2 z, Bool.or_eq_true, Bool.and_eq_true, Bool.and_eq_true, decide_eq_true_eq, decide_eq_true_eq, decide_eq_true_eq, decide_eq_true_eq, UInt8.le_iff_toNat_le, UInt8.le_iff_toNat_le, UInt8.le_iff_toNat_le, UInt8.le_iff_toNat_le, r1, hr1]
          omega
      · -- a longer run
        rw [if_pos (by omega), if_pos (by omega)] at d0 ⊢
        have d1 : s.drop (p + (charT x).length) = 45 :: (charT ((x :: t).getD (runF x t) 0) ++ (runsT g (t.drop (runF x t)) ++ 93 :: rest)) := by rw [d0]; rfl
        obtain ⟨_, d2, _⟩ := at_cons d1
        have c1 := charP_text d2
        have d3 := adv d2
        obtain ⟨f0, hf0⟩ := classL_text g _ (unionF c (rangeF x ((x :: t).getD (runF x t) 0))) _ hgl ht (union_ok' hc (range_ok' _ _)) d3
        refine ⟨f0 + 1, fun f hf => ?_⟩
        obtain ⟨f, rfl⟩ : ∃ k, f = k + 1 := ⟨f - 1, by omega⟩
        obtain ⟨c2, e1, e2, e3⟩ := hf0 f (by omega)
        refine ⟨c2, ?_, e2, fun z => ?_⟩
        · rw [classL, n93, if_neg (by simp), c0]
          dsimp only
          rw [if_pos (by rw [isB_cons d1]; rfl), c1]
          dsimp only
          rw [if_neg (by rw [UInt8.lt_iff_toNat_lt, r1]; omega), e1]
          simp only [List.length_append, List.length_singleton]; congr 3; omega
        · rw [e3 z, has_union hc (range_ok' _ _), has_range, mem z, Bool.or_assoc]
          congr 2
          rw [Bool.eq_iff_iff, List.contains_iff_mem, r2 z, Bool.and_eq_true, decide_eq_true_eq, decide_eq_true_eq, UInt8.le_iff_toNat_le, UInt8.le_iff_toNat_le, r1]
end Go.Proofs.YtkmgbcjfidpmgaaGreatDoor
