/- Package regex: the expressions that the reference builds, and that a tree's nodes stand for it. -/
import Derived.Test.YtkmgbcjfidpmgaaGreatDoorSame
namespace Go.Proofs.YtkmgbcjfidpmgaaGreatDoor
open Go Go.Ex

theorem errF_app : ∀ (a : List NodeV) (i : Nat) (b : List NodeV), errF i (a ++ b) = if errF i a = 0 then errF (i + a.length) b else errF i a
  | [], i, b => by simp [errF]
  | n :: a, i, b => by
    rw [List.cons_append, errF, errF]
    by_cases h : nodeE n i = 0
    · rw [if_pos h, if_pos h, errF_app a (i + 1) b, List.length_cons, show i + (a.length + 1) = i + 1 + a.length by omega]
    · rw [if_neg h, if_neg h, if_neg h]
theorem nodeE_bin {k : Int} {i : Nat} {l r : Int} (hk : k = 4 ∨ k = 5 ∨ k = 6) (h1 : 0 ≤ l) (h2 : l < i) (h3 : 0 ≤ r) (h4 : r < i) : nodeE (binN k l r) i = 0 := by
  have ha : arF k = 2 := arF_2 hk
  unfold nodeE binN
  rw [if_neg (show ¬ (k < 1 ∨ 8 < k) by omega), if_neg (fun h => h (by unfold opsOk; show (if 0 < arF k then 0 ≤ l ∧ l < (i : Int) else l = 0) ∧ (if 1 < arF k then 0 ≤ r ∧ r < (i : Int) else r = 0); rw [ha]; exact ⟨⟨h1, h2⟩, ⟨h3, h4⟩⟩)),
    if_neg (fun h => h.2 rfl), if_pos (show k ≠ 8 by omega), if_neg (fun h => by rcases h with h | h <;> exact h rfl)]
theorem nodeE_un {k : Int} {i : Nat} {l mn mx : Int} (hk : k = 7 ∧ mn = 0 ∧ mx = 0 ∨ k = 8 ∧ 0 ≤ mn ∧ mn ≤ 16 ∧ mx ≤ 16 ∧ (mx = -1 ∨ mn ≤ mx)) (h1 : 0 ≤ l) (h2 : l < i) : nodeE ⟨k, noC, l, 0, mn, mx⟩ i = 0 := by
  have ha : arF k = 1 := arF_1 (by omega)
  unfold nodeE
  rw [if_neg (show ¬ (k < 1 ∨ 8 < k) by omega), if_neg (fun h => h (by unfold opsOk; show (if 0 < arF k then 0 ≤ l ∧ l < (i : Int) else l = 0) ∧ (if 1 < arF k then 0 ≤ (0 : Int) ∧ (0 : Int) < (i : Int) else (0 : Int) = 0); rw [ha]; exact ⟨⟨h1, h2⟩, rfl⟩)),
    if_neg (fun h => h.2 rfl)]
  rcases hk with ⟨rfl, rfl, rfl⟩ | ⟨rfl, h3, h4, h5, h6⟩
  · rfl
  · show (if (8 : Int) ≠ 8 then _ else if mn < 0 ∨ mx < -1 then (1 : Int) else if 16 < mn ∨ 16 < mx then 2 else if mx ≠ -1 ∧ mx < mn then 1 else 0) = 0
    rw [if_neg (by omega), if_neg (by omega), if_neg (by omega), if_neg (by omega)]
theorem nodeE_leaf {k : Int} {c : List Nat} {i : Nat} (hk : k = 1 ∧ c = noC ∨ k = 2 ∧ c = noC ∨ k = 3) : nodeE (leafN k c) i = 0 := by
  have ha : arF k = 0 := arF_0 (by omega) (by omega)
  unfold nodeE leafN
  rw [if_neg (show ¬ (k < 1 ∨ 8 < k) by omega), if_neg (fun h => h (by unfold opsOk; show (if 0 < arF k then 0 ≤ (0 : Int) ∧ (0 : Int) < (i : Int) else (0 : Int) = 0) ∧ (if 1 < arF k then 0 ≤ (0 : Int) ∧ (0 : Int) < (i : Int) else (0 : Int) = 0); rw [ha]; exact ⟨rfl, rfl⟩)),
    if_neg (show ¬ (k ≠ 3 ∧ c ≠ noC) from fun h => by rcases hk with h' | h' | h'; exact h.2 h'.2; exact h.2 h'.2; exact h.1 h'), if_pos (show k ≠ 8 by omega), if_neg (fun h => by rcases h with h | h <;> exact h rfl)]
/-- The nodes of a tree have no error. -/
theorem nodes_err : ∀ (t : Rg) (o : Nat), TreeOk t → errF o (nodesT o t) = 0
  | .none, o, _ => by show (if nodeE (leafN 1 noC) o = 0 then (0 : Int) else _) = 0; rw [if_pos (nodeE_leaf (.inl ⟨rfl, rfl⟩))]
  | .eps, o, _ => by show (if nodeE (leafN 2 noC) o = 0 then (0 : Int) else _) = 0; rw [if_pos (nodeE_leaf (.inr (.inl ⟨rfl, rfl⟩)))]
  | .cls c, o, _ => by show (if nodeE (leafN 3 c) o = 0 then (0 : Int) else _) = 0; rw [if_pos (nodeE_leaf (.inr (.inr rfl)))]
  | .cat a b, o, h => by
    have := sizeT_pos a; have := sizeT_pos b
    rw [nodesT, List.append_assoc, errF_app, if_pos (nodes_err a o h.1), nodesT_len, errF_app, if_pos (nodes_err b _ h.2), nodesT_len, errF, if_pos (nodeE_bin (.inl rfl) (by omega) (by omega) (by omega) (by omega))]; rfl
  | .alt a b, o, h => by
    have := sizeT_pos a; have := sizeT_pos b
    rw [nodesT, List.append_assoc, errF_app, if_pos (nodes_err a o h.1), nodesT_len, errF_app, if_pos (nodes_err b _ h.2), nodesT_len, errF, if_pos (nodeE_bin (.inr (.inl rfl)) (by omega) (by omega) (by omega) (by omega))]; rfl
  | .and a b, o, h => by
    have := sizeT_pos a; have := sizeT_pos b
    rw [nodesT, List.append_assoc, errF_app, if_pos (nodes_err a o h.1), nodesT_len, errF_app, if_pos (nodes_err b _ h.2), nodesT_len, errF, if_pos (nodeE_bin (.inr (.inr rfl)) (by omega) (by omega) (by omega) (by omega))]; rfl
  | .not a, o, h => by
    have := sizeT_pos a
    rw [nodesT, errF_app, if_pos (nodes_err a o h), nodesT_len, errF, if_pos (nodeE_un (.inl ⟨rfl, rfl, rfl⟩) (by omega) (by omega))]; rfl
  | .rep mn mx a, o, h => by
    have := sizeT_pos a
    rw [nodesT, errF_app, if_pos (nodes_err a o h.2.2.2.2), nodesT_len, errF, if_pos (nodeE_un (.inr ⟨rfl, h.1, h.2.1, h.2.2.1, h.2.2.2.1⟩) (by omega) (by omega))]; rfl

/-! ### the operands' counts -/
def cur (cs : List Nat) (o n j : Nat) : Nat := cs.getD j 0 + if o ≤ j ∧ j + 1 < o + n then 1 else 0
theorem cnt_bin {cs : List Nat} {k : Int} {l r : Nat} (hk : k = 4 ∨ k = 5 ∨ k = 6) : stepC cs (binN k l r) = (cs.modify l (· + 1)).modify r (· + 1) := by
  unfold stepC binN
  rw [if_pos (show 1 < arF k by rw [arF_2 hk]; decide)]; rfl
theorem cnt_un {cs : List Nat} {n : NodeV} (hk : n.kind = 7 ∨ n.kind = 8) : stepC cs n = cs.modify n.l.toNat (· + 1) := by
  unfold stepC
  rw [arF_1 hk]; rfl
theorem fold_len : ∀ (l : List NodeV) (cs : List Nat), (l.foldl stepC cs).length = cs.length
  | [], _ => rfl
  | n :: l, cs => by rw [List.foldl_cons, fold_len l, stepC_len]
theorem two_cur {cs : List Nat} {A B : List NodeV} {o m n : Nat} {k : Int} {j : Nat} (hm : 0 < m) (hn : 0 < n) (hk : k = 4 ∨ k = 5 ∨ k = 6) (hl : o + (m + n + 1) ≤ cs.length) (hj : j < cs.length)
    (ha : ∀ cs : List Nat, o + m ≤ cs.length → ∀ j, j < cs.length → (A.foldl stepC cs).getD j 0 = cur cs o m j)
    (hb : ∀ cs : List Nat, o + m + n ≤ cs.length → ∀ j, j < cs.length → (B.foldl stepC cs).getD j 0 = cur cs (o + m) n j) :
    ((A ++ B ++ [binN k ((o + m : Nat) - 1) ((o + m + n : Nat) - 1)]).foldl stepC cs).getD j 0 = cur cs o (m + n + 1) j := by
  have e1 : (((o + m : Nat) : Int) - 1) = ((o + m - 1 : Nat) : Int) := by omega
  have e2 : (((o + m + n : Nat) : Int) - 1) = ((o + m + n - 1 : Nat) : Int) := by omega
  rw [e1, e2, List.foldl_append, List.foldl_append, List.foldl_cons, List.foldl_nil, cnt_bin hk]
  have hlen : (List.foldl stepC (List.foldl stepC cs A) B).length = cs.length := by rw [fold_len, fold_len]
  rw [mod_get (by rw [List.length_modify]; omega), mod_get (by omega), hb _ (by rw [fold_len]; omega) j (by rw [fold_len]; exact hj)]
  unfold cur
  rw [ha cs (by omega) j hj]
  unfold cur
  by_cases c1 : o + m + n - 1 = j
  · rw [if_pos c1, if_neg (by omega), if_neg (by omega), if_neg (by omega), if_pos (by omega)]
  · rw [if_neg c1]
    by_cases c2 : o + m - 1 = j
    · rw [if_pos c2, if_neg (by omega), if_neg (by omega), if_pos (by omega)]
    · rw [if_neg c2]
      by_cases c3 : o ≤ j ∧ j + 1 < o + m
      · rw [if_pos c3, if_neg (by omega), if_pos (by omega)]
      · rw [if_neg c3]
        by_cases c4 : o + m ≤ j ∧ j + 1 < o + m + n
        · rw [if_pos c4, if_pos (by omega)]
        · rw [if_neg c4, if_neg (by omega)]
theorem one_cur {cs : List Nat} {A : List NodeV} {o m : Nat} {n : NodeV} {j : Nat} (hm : 0 < m) (hk : n.kind = 7 ∨ n.kind = 8) (hnl : n.l = ((o + m : Nat) : Int) - 1) (hl : o + (m + 1) ≤ cs.length) (hj : j < cs.length)
    (ha : ∀ cs : List Nat, o + m ≤ cs.length → ∀ j, j < cs.length → (A.foldl stepC cs).getD j 0 = cur cs o m j) : ((A ++ [n]).foldl stepC cs).getD j 0 = cur cs o (m + 1) j := by
  rw [List.foldl_append, List.foldl_cons, List.foldl_nil, cnt_un hk, hnl, show (((o + m : Nat) : Int) - 1).toNat = o + m - 1 by omega, mod_get (by rw [fold_len]; exact hj), ha cs (by omega) j hj]
  unfold cur
  by_cases c2 : o + m - 1 = j
  · rw [if_pos c2, if_neg (by omega), if_pos (by omega)]
  · rw [if_neg c2]
    by_cases c3 : o ≤ j ∧ j + 1 < o + m
    · rw [if_pos c3, if_pos (by omega)]
    · rw [if_neg c3, if_neg (by omega)]
theorem leaf_cur {cs : List Nat} {k : Int} {c : List Nat} {o j : Nat} (hk : k = 1 ∨ k = 2 ∨ k = 3) : ([leafN k c].foldl stepC cs).getD j 0 = cur cs o 1 j := by
  unfold cur; rw [if_neg (by omega), List.foldl_cons, List.foldl_nil]
  unfold stepC
  rw [show arF (leafN k c).kind = 0 from arF_0 (show ¬ (k = 4 ∨ k = 5 ∨ k = 6) by omega) (show ¬ (k = 7 ∨ k = 8) by omega)]; rfl
theorem nodes_cur : ∀ (t : Rg) (o : Nat) (cs : List Nat), o + sizeT t ≤ cs.length → ∀ j, j < cs.length → ((nodesT o t).foldl stepC cs).getD j 0 = cur cs o (sizeT t) j
  | .none, o, cs, _, j, _ => leaf_cur (.inl rfl)
  | .eps, o, cs, _, j, _ => leaf_cur (.inr (.inl rfl))
  | .cls c, o, cs, _, j, _ => leaf_cur (.inr (.inr rfl))
  | .cat a b, o, cs, h, j, hj => two_cur (sizeT_pos a) (sizeT_pos b) (.inl rfl) h hj (nodes_cur a o) (nodes_cur b (o + sizeT a))
  | .alt a b, o, cs, h, j, hj => two_cur (sizeT_pos a) (sizeT_pos b) (.inr (.inl rfl)) h hj (nodes_cur a o) (nodes_cur b (o + sizeT a))
  | .and a b, o, cs, h, j, hj => two_cur (sizeT_pos a) (sizeT_pos b) (.inr (.inr rfl)) h hj (nodes_cur a o) (nodes_cur b (o + sizeT a))
  | .not a, o, cs, h, j, hj => one_cur (sizeT_pos a) (.inl rfl) rfl h hj (nodes_cur a o)
  | .rep mn mx a, o, cs, h, j, hj => one_cur (sizeT_pos a) (.inr rfl) rfl h hj (nodes_cur a o)
/-- The nodes of a tree are an expression. -/
theorem nodes_valid {t : Rg} (h : TreeOk t) (hs : sizeT t ≤ 200) : validF (nodesT 0 t) = 0 := by
  have hp := sizeT_pos t
  have hl := nodesT_len t 0
  rw [valid_cnt (by omega) (by omega) (nodes_err t 0 h), ones_all]
  · rfl
  · intro i hi
    unfold cntF
    rw [nodes_cur t 0 _ (by rw [List.length_replicate]; omega) i (by rw [List.length_replicate]; omega)]
    unfold cur
    rw [if_pos (by omega), List.getD_eq_getElem?_getD, List.getElem?_eq_getElem (by rw [List.length_replicate]; omega)]; simp

/-! ### the tree of a tree's nodes -/
theorem at_end {A B : List NodeV} {n : NodeV} {i : Nat} (hi : i = A.length) (h : i < (A ++ (n :: B)).length) : (A ++ (n :: B))[i] = n := by
  subst hi; rw [List.getElem_append_right (Nat.le_refl _)]; simp
theorem tree_two {l A B C : List NodeV} {o m n : Nat} {k : Int} {a b : Rg} (he : errF 0 l = 0) (hm : 0 < m) (hn : 0 < n) (hl : l = A ++ (binN k ((o + m : Nat) - 1) ((o + m + n : Nat) - 1) :: C)) (hA : A.length = o + m + n)
    (h1 : treeA l (o + m - 1) = a) (h2 : treeA l (o + m + n - 1) = b) : treeA l (o + m + n) = mkT (binN k 0 0) a b := by
  have hi : o + m + n < l.length := by rw [hl, List.length_append, List.length_cons]; omega
  have hn' : l[o + m + n] = binN k ((o + m : Nat) - 1) ((o + m + n : Nat) - 1) := by subst hl; exact at_end hA.symm hi
  rw [treeA_eq he hi, hn']
  show mkT (binN k _ _) (treeA l (((o + m : Nat) : Int) - 1).toNat) (treeA l (((o + m + n : Nat) : Int) - 1).toNat) = _
  rw [show (((o + m : Nat) : Int) - 1).toNat = o + m - 1 by omega, show (((o + m + n : Nat) : Int) - 1).toNat = o + m + n - 1 by omega, h1, h2]; rfl
theorem tree_one {l A C : List NodeV} {o m : Nat} {n : NodeV} {a : Rg} (he : errF 0 l = 0) (hm : 0 < m) (hl : l = A ++ (n :: C)) (hA : A.length = o + m) (hk : n.kind = 7 ∨ n.kind = 8) (hnl : n.l = ((o + m : Nat) : Int) - 1)
    (h1 : treeA l (o + m - 1) = a) : treeA l (o + m) = mkT n a a := by
  have hi : o + m < l.length := by rw [hl, List.length_append, List.length_cons]; omega
  have hn' : l[o + m] = n := by subst hl; exact at_end hA.symm hi
  rw [treeA_eq he hi, hn', hnl, show (((o + m : Nat) : Int) - 1).toNat = o + m - 1 by omega, h1]
  exact mkT_one hk
theorem tree_leaf {l A C : List NodeV} {o : Nat} {n : NodeV} {t : Rg} (he : errF 0 l = 0) (hl : l = A ++ (n :: C)) (hA : A.length = o) (hk : n.kind = 1 ∨ n.kind = 2 ∨ n.kind = 3) (ht : mkT n .none .none = t) : treeA l o = t := by
  have hi : o < l.length := by rw [hl, List.length_append, List.length_cons]; omega
  have hn' : l[o] = n := by subst hl; exact at_end hA.symm hi
  rw [treeA_eq he hi, hn', mkT_leaf hk (c := .none) (d := .none), ht]
theorem tree_nodes : ∀ (t : Rg) (o : Nat) (l A C : List NodeV), errF 0 l = 0 → A.length = o → l = A ++ (nodesT o t ++ C) → treeA l (o + sizeT t - 1) = t
  | .none, o, l, A, C, he, hA, hl => tree_leaf he hl hA (.inl rfl) rfl
  | .eps, o, l, A, C, he, hA, hl => tree_leaf he hl hA (.inr (.inl rfl)) rfl
  | .cls c, o, l, A, C, he, hA, hl => tree_leaf he hl hA (.inr (.inr rfl)) rfl
  | .cat a b, o, l, A, C, he, hA, hl => by
    have := sizeT_pos a; have := sizeT_pos b
    have hla := nodesT_len a o; have hlb := nodesT_len b (o + sizeT a)
    rw [nodesT] at hl
    have ha := tree_nodes a o l A _ he hA (by rw [hl]; simp only [List.append_assoc]; rfl)
    have hb := tree_nodes b (o + sizeT a) l (A ++ nodesT o a) _ he (by rw [List.length_append]; omega) (by rw [hl]; simp only [List.append_assoc]; rfl)
    have h2 := tree_two (A := A ++ nodesT o a ++ nodesT (o + sizeT a) b) (B := []) (C := C) (o := o) (m := sizeT a) (n := sizeT b) (k := 4) he (sizeT_pos a) (sizeT_pos b) (by rw [hl]; simp only [List.append_assoc]; rfl) (by simp only [List.length_append]; omega) ha hb
    rw [show o + sizeT (.cat a b) - 1 = o + sizeT a + sizeT b by simp only [sizeT]; omega]; exact h2
  | .alt a b, o, l, A, C, he, hA, hl => by
    have := sizeT_pos a; have := sizeT_pos b
    have hla := nodesT_len a o; have hlb := nodesT_len b (o + sizeT a)
    rw [nodesT] at hl
    have ha := tree_nodes a o l A _ he hA (by rw [hl]; simp only [List.append_assoc]; rfl)
    have hb := tree_nodes b (o + sizeT a) l (A ++ nodesT o a) _ he (by rw [List.length_append]; omega) (by rw [hl]; simp only [List.append_assoc]; rfl)
    have h2 := tree_two (A := A ++ nodesT o a ++ nodesT (o + sizeT a) b) (B := []) (C := C) (o := o) (m := sizeT a) (n := sizeT b) (k := 5) he (sizeT_pos a) (sizeT_pos b) (by rw [hl]; simp only [List.append_assoc]; rfl) (by simp only [List.length_append]; omega) ha hb
    rw [show o + sizeT (.alt a b) - 1 = o + sizeT a + sizeT b by simp only [sizeT]; omega]; exact h2
  | .and a b, o, l, A, C, he, hA, hl => by
    have := sizeT_pos a; have := sizeT_pos b
    have hla := nodesT_len a o; have hlb := nodesT_len b (o + sizeT a)
    rw [nodesT] at hl
    have ha := tree_nodes a o l A _ he hA (by rw [hl]; simp only [List.append_assoc]; rfl)
    have hb := tree_nodes b (o + sizeT a) l (A ++ nodesT o a) _ he (by rw [List.length_append]; omega) (by rw [hl]; simp only [List.append_assoc]; rfl)
    have h2 := tree_two (A := A ++ nodesT o a ++ nodesT (o + sizeT a) b) (B := []) (C := C) (o := o) (m := sizeT a) (n := sizeT b) (k := 6) he (sizeT_pos a) (sizeT_pos b) (by rw [hl]; simp only [List.append_assoc]; rfl) (by simp only [List.length_append]; omega) ha hb
    rw [show o + sizeT (.and a b) - 1 = o + sizeT a + sizeT b by simp only [sizeT]; omega]; exact h2
  | .not a, o, l, A, C, he, hA, hl => by
    have := sizeT_pos a
    have hla := nodesT_len a o
    rw [nodesT] at hl
    have ha := tree_nodes a o l A _ he hA (by rw [hl]; simp only [List.append_assoc]; rfl)
    exact tree_one (A := A ++ nodesT o a) (C := C) (o := o) (m := sizeT a) he (sizeT_pos a) (by rw [hl]; simp only [List.append_assoc]; rfl) (by rw [List.length_append]; omega) (.inl rfl) rfl ha
  | .rep mn mx a, o, l, A, C, he, hA, hl => by
    have := sizeT_pos a
    have hla := nodesT_len a o
    rw [nodesT] at hl
    have ha := tree_nodes a o l A _ he hA (by rw [hl]; simp only [List.append_assoc]; rfl)
    exact tree_one (A := A ++ nodesT o a) (C := C) (o := o) (m := sizeT a) he (sizeT_pos a) (by rw [hl]; simp only [List.append_assoc]; rfl) (by rw [List.length_append]; omega) (.inr rfl) rfl ha
theorem tree_of {t : Rg} (h : TreeOk t) : treeA (nodesT 0 t) (sizeT t - 1) = t := by
  have := tree_nodes t 0 (nodesT 0 t) [] [] (nodes_err t 0 h) rfl (by simp)
  rwa [Nat.zero_add] at this
/-! ### what the reference builds -/
def shiftN (k : Nat) (n : NodeV) : NodeV := ⟨n.kind, n.c, if 0 < arF n.kind then n.l + k else n.l, if 1 < arF n.kind then n.r + k else n.r, n.mn, n.mx⟩
def binF (k : Int) (x y : List NodeV) : List NodeV := x ++ y.map (shiftN x.length) ++ [binN k ((x.length : Int) - 1) (((x.length + y.length : Nat) : Int) - 1)]
def unF (n : NodeV) (x : List NodeV) : List NodeV := x ++ [⟨n.kind, n.c, (x.length : Int) - 1, n.r, n.mn, n.mx⟩]
theorem shift_leaf {k : Int} {c : List Nat} {d : Nat} (hk : k = 1 ∨ k = 2 ∨ k = 3) : shiftN d (leafN k c) = leafN k c := by
  unfold shiftN
  rw [show arF (leafN k c).kind = 0 from arF_0 (show ¬ (k = 4 ∨ k = 5 ∨ k = 6) by omega) (show ¬ (k = 7 ∨ k = 8) by omega)]; rfl
theorem shift_bin {k : Int} {o m n d : Nat} (hk : k = 4 ∨ k = 5 ∨ k = 6) : shiftN d (binN k ((o + m : Nat) - 1) ((o + m + n : Nat) - 1)) = binN k ((o + d + m : Nat) - 1) ((o + d + m + n : Nat) - 1) := by
  unfold shiftN
  rw [show arF (binN k (((o + m : Nat) : Int) - 1) (((o + m + n : Nat) : Int) - 1)).kind = 2 from arF_2 hk]
  show (⟨k, noC, ((o + m : Nat) : Int) - 1 + d, ((o + m + n : Nat) : Int) - 1 + d, 0, 0⟩ : NodeV) = ⟨k, noC, ((o + d + m : Nat) : Int) - 1, ((o + d + m + n : Nat) : Int) - 1, 0, 0⟩
  rw [show ((o + m : Nat) : Int) - 1 + d = ((o + d + m : Nat) : Int) - 1 by omega, show ((o + m + n : Nat) : Int) - 1 + d = ((o + d + m + n : Nat) : Int) - 1 by omega]
theorem shift_un {k mn mx : Int} {o m d : Nat} (hk : k = 7 ∨ k = 8) : shiftN d ⟨k, noC, ((o + m : Nat) : Int) - 1, 0, mn, mx⟩ = ⟨k, noC, ((o + d + m : Nat) : Int) - 1, 0, mn, mx⟩ := by
  unfold shiftN
  dsimp only
  rw [arF_1 hk]
  show (⟨k, noC, ((o + m : Nat) : Int) - 1 + d, 0, mn, mx⟩ : NodeV) = _
  rw [show ((o + m : Nat) : Int) - 1 + d = ((o + d + m : Nat) : Int) - 1 by omega]
theorem nodes_shift : ∀ (t : Rg) (o d : Nat), (nodesT o t).map (shiftN d) = nodesT (o + d) t
  | .none, o, d => by show [_] = [_]; rw [shift_leaf (.inl rfl)]
  | .eps, o, d => by show [_] = [_]; rw [shift_leaf (.inr (.inl rfl))]
  | .cls c, o, d => by show [_] = [_]; rw [shift_leaf (.inr (.inr rfl))]
  | .cat a b, o, d => by rw [nodesT, nodesT, List.map_append, List.map_append, nodes_shift a, nodes_shift b, List.map_cons, List.map_nil, shift_bin (.inl rfl), show o + sizeT a + d = o + d + sizeT a by omega]
  | .alt a b, o, d => by rw [nodesT, nodesT, List.map_append, List.map_append, nodes_shift a, nodes_shift b, List.map_cons, List.map_nil, shift_bin (.inr (.inl rfl)), show o + sizeT a + d = o + d + sizeT a by omega]
  | .and a b, o, d => by rw [nodesT, nodesT, List.map_append, List.map_append, nodes_shift a, nodes_shift b, List.map_cons, List.map_nil, shift_bin (.inr (.inr rfl)), show o + sizeT a + d = o + d + sizeT a by omega]
  | .not a, o, d => by rw [nodesT, nodesT, List.map_append, nodes_shift a, List.map_cons, List.map_nil, shift_un (.inl rfl)]
  | .rep mn mx a, o, d => by rw [nodesT, nodesT, List.map_append, nodes_shift a, List.map_cons, List.map_nil, shift_un (.inr rfl)]
def binT (k : Int) (a b : Rg) : Rg := if k = 4 then .cat a b else if k = 5 then .alt a b else .and a b
theorem binT_size (k : Int) (a b : Rg) : sizeT (binT k a b) = sizeT a + sizeT b + 1 := by unfold binT; split <;> (try split) <;> rfl
theorem binT_ok {k : Int} {a b : Rg} (ha : TreeOk a) (hb : TreeOk b) : TreeOk (binT k a b) := by unfold binT; split <;> (try split) <;> exact ⟨ha, hb⟩
theorem binF_nodes {k : Int} (hk : k = 4 ∨ k = 5 ∨ k = 6) (a b : Rg) : binF k (nodesT 0 a) (nodesT 0 b) = nodesT 0 (binT k a b) := by
  unfold binF
  rw [nodes_shift, nodesT_len, nodesT_len]
  rcases hk with rfl | rfl | rfl
  · show _ = nodesT 0 (.cat a b); rw [nodesT, Nat.zero_add]
  · show _ = nodesT 0 (.alt a b); rw [nodesT, Nat.zero_add]
  · show _ = nodesT 0 (.and a b); rw [nodesT, Nat.zero_add]
theorem unF_not (a : Rg) : unF ⟨7, noC, 0, 0, 0, 0⟩ (nodesT 0 a) = nodesT 0 (.not a) := by unfold unF; rw [nodesT, nodesT_len, Nat.zero_add]
theorem unF_rep (mn mx : Int) (a : Rg) : unF ⟨8, noC, 0, 0, mn, mx⟩ (nodesT 0 a) = nodesT 0 (.rep mn mx a) := by unfold unF; rw [nodesT, nodesT_len, Nat.zero_add]
/-- Every class has a short text. -/
def ShortT : Rg → Prop
  | .cls c => (classT (membF c)).length ≤ 40
  | .cat a b | .alt a b | .and a b => ShortT a ∧ ShortT b
  | .not a => ShortT a
  | .rep _ _ a => ShortT a
  | _ => True
theorem par_le (k r : Nat) (t : List UInt8) : (par k r t).length ≤ t.length + 2 := by unfold par; split <;> simp
theorem txt_short : ∀ t : Rg, ShortT t → (txt t).length ≤ 44 * sizeT t
  | .none, _ => by simp [txt, sizeT]
  | .eps, _ => by simp [txt, sizeT]
  | .cls c, h => by have : (classT (membF c)).length ≤ 40 := h; simp only [txt, sizeT]; omega
  | .cat a b, h => by
    have := txt_short a h.1; have := txt_short b h.2; have := par_le 2 (rank a) (txt a); have := par_le 3 (rank b) (txt b)
    simp only [txt, sizeT, List.length_append]; omega
  | .alt a b, h => by
    have := txt_short a h.1; have := txt_short b h.2; have := par_le 1 (rank b) (txt b)
    simp only [txt, sizeT, List.length_append, List.length_cons]; omega
  | .and a b, h => by
    have := txt_short a h.1; have := txt_short b h.2; have := par_le 1 (rank a) (txt a); have := par_le 2 (rank b) (txt b)
    simp only [txt, sizeT, List.length_append, List.length_cons]; omega
  | .not a, h => by
    have := txt_short a h; have := par_le 3 (rank a) (txt a)
    simp only [txt, sizeT, List.length_cons]; omega
  | .rep mn mx a, h => by
    have := txt_short a h; have := par_le 4 (rank a) (txt a); have := sufT_len mn mx
    simp only [txt, sizeT, List.length_append]; omega
theorem binT_short {k : Int} {a b : Rg} (ha : ShortT a) (hb : ShortT b) : ShortT (binT k a b) := by unfold binT; split <;> (try split) <;> exact ⟨ha, hb⟩
theorem rng_two {A B : List NodeV} {o m n : Nat} {k : Int} (hm : 0 < m) (hn : 0 < n) (ha : ∀ x ∈ A, 0 ≤ x.l ∧ x.l < o + m ∧ 0 ≤ x.r ∧ x.r < o + m) (hb : ∀ x ∈ B, 0 ≤ x.l ∧ x.l < (o + m : Nat) + n ∧ 0 ≤ x.r ∧ x.r < (o + m : Nat) + n) :
    ∀ x ∈ A ++ B ++ [binN k ((o + m : Nat) - 1) ((o + m + n : Nat) - 1)], 0 ≤ x.l ∧ x.l < o + (m + n + 1 : Nat) ∧ 0 ≤ x.r ∧ x.r < o + (m + n + 1 : Nat) := fun x hx => by
  rcases List.mem_append.1 hx with h | h
  · rcases List.mem_append.1 h with h | h
    · have := ha x h; omega
    · have := hb x h; omega
  · rw [List.mem_singleton] at h; subst h
    simp only [binN]; omega
theorem rng_one {A : List NodeV} {o m : Nat} {n : NodeV} (hm : 0 < m) (h1 : n.l = ((o + m : Nat) : Int) - 1) (h2 : n.r = 0) (ha : ∀ x ∈ A, 0 ≤ x.l ∧ x.l < o + m ∧ 0 ≤ x.r ∧ x.r < o + m) : ∀ x ∈ A ++ [n], 0 ≤ x.l ∧ x.l < o + (m + 1 : Nat) ∧ 0 ≤ x.r ∧ x.r < o + (m + 1 : Nat) := fun x hx => by
  rcases List.mem_append.1 hx with h | h
  · have := ha x h; omega
  · rw [List.mem_singleton] at h; subst h
    omega
/-- A stack of expressions. -/
def RxR (G : Ghost) (cs : List Value) (l : List NodeV) : Prop := ∃ u, cs = [u] ∧ Rx G u l
def Stk (G : Ghost) (v : Value) (st : List (List NodeV)) : Prop := LstR 1 RxR G v st
theorem Stk.mono {G G' : Ghost} (h : G.le G') {v : Value} {st : List (List NodeV)} (hs : Stk G v st) : Stk G' v st := LstR.mono (R := RxR) (fun _ _ ⟨u, hu, hx⟩ => ⟨u, hu, hx.mono h⟩) h hs
def IsTree (l : List NodeV) : Prop := ∃ t, TreeOk t ∧ ShortT t ∧ l = nodesT 0 t
def Forest (st : List (List NodeV)) : Prop := ∀ l ∈ st, IsTree l
def total (st : List (List NodeV)) : Nat := (st.map List.length).sum
theorem IsTree.bin {k : Int} (hk : k = 4 ∨ k = 5 ∨ k = 6) {x y : List NodeV} (hx : IsTree x) (hy : IsTree y) : IsTree (binF k x y) := by
  obtain ⟨a, ha, ha2, rfl⟩ := hx; obtain ⟨b, hb, hb2, rfl⟩ := hy
  exact ⟨_, binT_ok ha hb, binT_short ha2 hb2, binF_nodes hk a b⟩
theorem IsTree.un {n : NodeV} {x : List NodeV} (hn : n = ⟨7, noC, 0, 0, 0, 0⟩ ∨ ∃ mn mx : Int, n = ⟨8, noC, 0, 0, mn, mx⟩ ∧ 0 ≤ mn ∧ mn ≤ 16 ∧ mx ≤ 16 ∧ (mx = -1 ∨ mn ≤ mx)) (hx : IsTree x) : IsTree (unF n x) := by
  obtain ⟨a, ha, ha2, rfl⟩ := hx
  rcases hn with rfl | ⟨mn, mx, rfl, h1, h2, h3, h4⟩
  · exact ⟨.not a, ha, ha2, unF_not a⟩
  · exact ⟨.rep mn mx a, ⟨h1, h2, h3, h4, ha⟩, ha2, unF_rep mn mx a⟩
theorem IsTree.leaf {k : Int} {c : List Nat} (h : k = 1 ∧ c = noC ∨ k = 2 ∧ c = noC ∨ k = 3 ∧ ClsOk c ∧ (classT (membF c)).length ≤ 40) : IsTree [leafN k c] := by
  rcases h with ⟨rfl, rfl⟩ | ⟨rfl, rfl⟩ | ⟨rfl, hc⟩
  · exact ⟨.none, trivial, trivial, rfl⟩
  · exact ⟨.eps, trivial, trivial, rfl⟩
  · exact ⟨.cls c, hc.1, hc.2, rfl⟩
theorem IsTree.pos {x : List NodeV} (h : IsTree x) : 0 < x.length := by obtain ⟨t, _, _, rfl⟩ := h; rw [nodesT_len]; exact sizeT_pos t
theorem IsTree.cls {x : List NodeV} (h : IsTree x) : ∀ n ∈ x, ClsOk n.c := by obtain ⟨t, ht, _, rfl⟩ := h; exact nodes_cls t 0 ht
theorem nodes_rng : ∀ (t : Rg) (o : Nat), ∀ n ∈ nodesT o t, 0 ≤ n.l ∧ n.l < o + sizeT t ∧ 0 ≤ n.r ∧ n.r < o + sizeT t
  | .none, o, n, h => by obtain rfl : n = leafN 1 noC := by simpa [nodesT] using h
                         simp only [leafN, sizeT]; omega
  | .eps, o, n, h => by obtain rfl : n = leafN 2 noC := by simpa [nodesT] using h
                        simp only [leafN, sizeT]; omega
  | .cls c, o, n, h => by obtain rfl : n = leafN 3 c := by simpa [nodesT] using h
                          simp only [leafN, sizeT]; omega
  | .cat a b, o, n, h => rng_two (sizeT_pos a) (sizeT_pos b) (nodes_rng a o) (nodes_rng b (o + sizeT a)) n h
  | .alt a b, o, n, h => rng_two (sizeT_pos a) (sizeT_pos b) (nodes_rng a o) (nodes_rng b (o + sizeT a)) n h
  | .and a b, o, n, h => rng_two (sizeT_pos a) (sizeT_pos b) (nodes_rng a o) (nodes_rng b (o + sizeT a)) n h
  | .not a, o, n, h => rng_one (sizeT_pos a) rfl rfl (nodes_rng a o) n h
  | .rep mn mx a, o, n, h => rng_one (sizeT_pos a) rfl rfl (nodes_rng a o) n h
theorem IsTree.rng {x : List NodeV} (h : IsTree x) (hl : x.length ≤ 1000000000) : ∀ m ∈ x, -1000000000 ≤ m.l ∧ m.l ≤ 1000000000 ∧ -1000000000 ≤ m.r ∧ m.r ≤ 1000000000 := by
  obtain ⟨t, _, _, rfl⟩ := h
  rw [nodesT_len] at hl
  intro m hm
  have := nodes_rng t 0 m hm
  omega
theorem binF_len (k : Int) (x y : List NodeV) : (binF k x y).length = x.length + y.length + 1 := by simp [binF]; omega
theorem unF_len (n : NodeV) (x : List NodeV) : (unF n x).length = x.length + 1 := by simp [unF]
theorem total_app (a b : List (List NodeV)) : total (a ++ b) = total a + total b := by simp [total]
theorem total_take {st : List (List NodeV)} : ∀ {i : Nat} (h : i < st.length), total (st.take (i + 1)) = total (st.take i) + (st[i]'h).length := by
  intro i h
  rw [List.take_add_one, List.getElem?_eq_getElem h, total_app]; simp [total]
theorem total_le {st : List (List NodeV)} {i : Nat} (h : i < st.length) : (st[i]'h).length ≤ total st := by
  have : total st = total (st.take (i + 1)) + total (st.drop (i + 1)) := by rw [← total_app, List.take_append_drop]
  rw [this, total_take h]; omega
theorem Forest.app {a b : List (List NodeV)} (ha : Forest a) (hb : Forest b) : Forest (a ++ b) := fun l hl => by
  rcases List.mem_append.1 hl with h | h
  · exact ha l h
  · exact hb l h
theorem Forest.take {a : List (List NodeV)} (ha : Forest a) (n : Nat) : Forest (a.take n) := fun l hl => ha l (List.mem_of_mem_take hl)
theorem Forest.one {l : List NodeV} (h : IsTree l) : Forest [l] := fun m hm => by rw [List.mem_singleton] at hm; subst hm; exact h
theorem Forest.at {a : List (List NodeV)} (ha : Forest a) {i : Nat} (h : i < a.length) : IsTree a[i] := ha _ (List.getElem_mem h)
theorem Forest.len {a : List (List NodeV)} (ha : Forest a) : a.length ≤ total a := by
  induction a with
  | nil => exact Nat.zero_le _
  | cons l a ih =>
    have h1 := (ha l (by simp)).pos
    have h2 := ih fun m hm => ha m (by simp [hm])
    unfold total at h2 ⊢
    rw [List.map_cons, List.sum_cons, List.length_cons]; omega
/-- One step of the builder. -/
structure Push (st st' : List (List NodeV)) : Prop where
  forest : Forest st'
  one : 1 ≤ st'.length
  sum : total st' = total st + 1
theorem push_bin {st : List (List NodeV)} (hf : Forest st) {n : Nat} (hn : st.length = n + 2) {k : Int} (hk : k = 4 ∨ k = 5 ∨ k = 6) : Push st (st.take n ++ [binF k (st[n]'(by omega)) (st[n + 1]'(by omega))]) := by
  refine ⟨(hf.take n).app (.one (.bin hk (hf.at (by omega)) (hf.at (by omega)))), by rw [List.length_append]; simp, ?_⟩
  have e : total st = total (st.take n) + (st[n]'(by omega)).length + (st[n + 1]'(by omega)).length := by
    rw [← total_take (by omega), ← total_take (by omega), List.take_of_length_le (by omega)]
  rw [total_app, e]
  show _ + ((binF k _ _).length + 0) = _
  rw [binF_len]; omega
theorem push_un {st : List (List NodeV)} (hf : Forest st) {n : Nat} (hn : st.length = n + 1) {x : NodeV} (hx : x = ⟨7, noC, 0, 0, 0, 0⟩ ∨ ∃ mn mx : Int, x = ⟨8, noC, 0, 0, mn, mx⟩ ∧ 0 ≤ mn ∧ mn ≤ 16 ∧ mx ≤ 16 ∧ (mx = -1 ∨ mn ≤ mx)) : Push st (st.take n ++ [unF x (st[n]'(by omega))]) := by
  refine ⟨(hf.take n).app (.one (.un hx (hf.at (by omega)))), by rw [List.length_append]; simp, ?_⟩
  have e : total st = total (st.take n) + (st[n]'(by omega)).length := by rw [← total_take (by omega), List.take_of_length_le (by omega)]
  rw [total_app, e]
  show _ + ((unF x _).length + 0) = _
  rw [unF_len]; omega
theorem push_leaf {st : List (List NodeV)} (hf : Forest st) {l : List NodeV} (hl : IsTree l) (h1 : l.length = 1) : Push st (st.take st.length ++ [l]) := by
  refine ⟨(hf.take _).app (.one hl), by rw [List.length_append]; simp, ?_⟩
  rw [total_app, List.take_of_length_le (Nat.le_refl _)]
  show _ + (l.length + 0) = _
  omega
end Go.Proofs.YtkmgbcjfidpmgaaGreatDoor
