/- Package regex: the reference's tables of entries, and that they are the sets of ends. -/
import Derived.Test.YtkmgbcjfidpmgaaGreatDoorBits
namespace Go.Proofs.YtkmgbcjfidpmgaaGreatDoor
open Go Go.Ex

/-! ### rows and matrices -/
def rowL (n : Nat) (f : Nat → Bool) : List Bool := (List.range (n + 1)).map f
theorem rowL_len {n : Nat} {f : Nat → Bool} : (rowL n f).length = n + 1 := by unfold rowL; rw [List.length_map, List.length_range]
theorem rowL_at {n j : Nat} {f : Nat → Bool} (h : j ≤ n) : (rowL n f)[j]? = some (f j) := by unfold rowL; rw [List.getElem?_map, List.getElem?_range (by omega)]; rfl
theorem rowL_get {n j : Nat} {f : Nat → Bool} (h : j < (rowL n f).length) : (rowL n f)[j] = f j := by
  have := rowL_at (n := n) (f := f) (j := j) (by rw [rowL_len] at h; omega)
  rw [List.getElem?_eq_getElem h] at this; exact Option.some.inj this
theorem rowL_congr {n : Nat} {f g : Nat → Bool} (h : ∀ j, j ≤ n → f j = g j) : rowL n f = rowL n g := by
  unfold rowL; apply List.map_congr_left; intro j hj; exact h j (by have := List.mem_range.1 hj; omega)
theorem rowV_at {n j : Nat} {f : Nat → Bool} (h : j ≤ n) : ((rowL n f).map boolV)[j]? = some (.bool (f j)) := by rw [List.getElem?_map, rowL_at h]; rfl
theorem rowL_set {n j : Nat} {f g : Nat → Bool} {x : Bool} (hg : g j = x) (ho : ∀ k, k ≤ n → k ≠ j → g k = f k) : (rowL n f).set j x = rowL n g := by
  apply List.ext_getElem?; intro k
  rw [List.getElem?_set]
  by_cases hk : k ≤ n
  · rw [rowL_at hk]
    by_cases h : j = k
    · subst h; rw [if_pos rfl, if_pos (by rw [rowL_len]; omega), rowL_at hk, hg]
    · rw [if_neg h, rowL_at hk, ho k hk (fun e => h e.symm)]
  · have h1 : (rowL n f)[k]? = none := List.getElem?_eq_none (by rw [rowL_len]; omega)
    have h2 : (rowL n g)[k]? = none := List.getElem?_eq_none (by rw [rowL_len]; omega)
    rw [h1, h2]; split
    · rw [if_neg (by rw [rowL_len]; omega)]
    · rfl
theorem rowV_set {n j : Nat} {f g : Nat → Bool} {x : Bool} (hg : g j = x) (ho : ∀ k, k ≤ n → k ≠ j → g k = f k) : ((rowL n f).map boolV).set j (.bool x) = (rowL n g).map boolV := by
  rw [← rowL_set hg ho, List.map_set]; rfl
theorem rowL_false (n : Nat) : rowL n (fun _ => false) = List.replicate (n + 1) false := by
  unfold rowL; rw [List.map_const', List.length_range]
theorem rowL_same {n : Nat} {f : Nat → Bool} {x : Bool} (j : Nat) (hx : f j = x) : (rowL n f).set j x = rowL n f := rowL_set hx (fun _ _ _ => rfl)
theorem rowV_zero {n : Nat} {f : Nat → Bool} (h : ∀ k, k ≤ n → f k = false) : List.replicate (n + 1) (Value.bool false) = (rowL n f).map boolV := by
  rw [rowL_congr h, rowL_false, List.map_replicate]; rfl
theorem fl_step {n j : Nat} {F : Nat → Bool} {x : Bool} (hx : F j = x) : ((rowL n (fun k => decide (k < j) && F k)).map boolV).set j (.bool x) = (rowL n (fun k => decide (k < j + 1) && F k)).map boolV :=
  rowV_set (by rw [hx, show decide (j < j + 1) = true from decide_eq_true (by omega)]; rfl) (fun k _ hk => by rw [show decide (k < j + 1) = decide (k < j) from decide_eq_decide.2 (by omega)])
theorem fl_end {n : Nat} {F : Nat → Bool} : rowL n (fun k => decide (k < n + 1) && F k) = rowL n F := rowL_congr fun k hk => by rw [show decide (k < n + 1) = true from decide_eq_true (by omega)]; rfl
/-- The first i rows of a matrix. -/
def rowsL (n : Nat) (M : Nat → Nat → Bool) (i : Nat) : List (List Bool) := (List.range i).map fun k => rowL n (M k)
theorem rowsL_len {n : Nat} {M : Nat → Nat → Bool} {i : Nat} : (rowsL n M i).length = i := by unfold rowsL; rw [List.length_map, List.length_range]
theorem rowsL_succ (n : Nat) (M : Nat → Nat → Bool) (i : Nat) : rowsL n M (i + 1) = rowsL n M i ++ [rowL n (M i)] := by unfold rowsL; rw [List.range_succ, List.map_append]; rfl
theorem rowsL_at {n : Nat} {M : Nat → Nat → Bool} {i k : Nat} (h : k < i) : (rowsL n M i)[k]? = some (rowL n (M k)) := by unfold rowsL; rw [List.getElem?_map, List.getElem?_range h]; rfl
theorem rowsL_get {n : Nat} {M : Nat → Nat → Bool} {i k : Nat} (h : k < (rowsL n M i).length) : (rowsL n M i)[k] = rowL n (M k) := by
  have := rowsL_at (n := n) (M := M) (i := i) (k := k) (by rw [rowsL_len] at h; exact h)
  rw [List.getElem?_eq_getElem h] at this; exact Option.some.inj this
theorem rowsL_congr {n : Nat} {M M' : Nat → Nat → Bool} {i : Nat} (h : ∀ k, k < i → ∀ j, j ≤ n → M k j = M' k j) : rowsL n M i = rowsL n M' i := by
  unfold rowsL; apply List.map_congr_left; intro k hk; exact rowL_congr (h k (List.mem_range.1 hk))
theorem rowsL_set {n i k j : Nat} {M M' : Nat → Nat → Bool} {x : Bool} (hk : k < i) (hx : M' k j = x) (ho : ∀ a b, a < i → b ≤ n → ¬ (a = k ∧ b = j) → M' a b = M a b) : (rowsL n M i).set k ((rowL n (M k)).set j x) = rowsL n M' i := by
  rw [rowL_set (g := M' k) hx (fun b hb hne => ho k b hk hb (fun h => hne h.2))]
  apply List.ext_getElem?; intro a
  rw [List.getElem?_set]
  by_cases ha : a < i
  · rw [rowsL_at ha]
    by_cases h : k = a
    · subst h; rw [if_pos rfl, if_pos (by rw [rowsL_len]; exact hk), rowsL_at hk]
    · rw [if_neg h, rowsL_at ha]; exact congrArg some (rowL_congr (fun b hb => (ho a b ha hb (fun h' => h h'.1.symm)).symm))
  · have h1 : (rowsL n M i)[a]? = none := List.getElem?_eq_none (by rw [rowsL_len]; omega)
    have h2 : (rowsL n M' i)[a]? = none := List.getElem?_eq_none (by rw [rowsL_len]; omega)
    rw [h1, h2]; split
    · rw [if_neg (by rw [rowsL_len]; omega)]
    · rfl
abbrev BMat := Nat → Nat → Bool
def BoolsR (G : Ghost) (c : List Value) (r : List Bool) : Prop := ∃ u, c = [u] ∧ Bools G u r
/-- A matrix that no longer changes. -/
def Mat (G : Ghost) (v : Value) (n : Nat) (M : BMat) : Prop := LstR 1 BoolsR G v (rowsL n M (n + 1))
theorem Mat.mono {G G' : Ghost} (h : G.le G') {v : Value} {n : Nat} {M : BMat} (hm : Mat G v n M) : Mat G' v n M := LstR.mono (fun _ _ ⟨u, e, hu⟩ => ⟨u, e, hu.mono h⟩) h hm
def RowsV (G : Ghost) (us : List Value) (rs : List (List Bool)) : Prop := All2 (fun u r => Bools G u r) us rs
theorem RowsV.mono {G G' : Ghost} (h : G.le G') {us : List Value} {rs : List (List Bool)} (hs : RowsV G us rs) : RowsV G' us rs := All2.mono (fun _ _ hx => hx.mono h) hs
theorem Bools.ofRow {G : Ghost} {v : Value} {n : Nat} {f : Nat → Bool} (h : Sl G v 1 (n + 1) ((rowL n f).map boolV)) : Bools G v (rowL n f) := by unfold Bools; rw [rowL_len]; exact h
theorem RowsV.push {G : Ghost} {us : List Value} {n : Nat} {M : BMat} {i : Nat} {u : Value} {r : List Bool} (h : RowsV G us (rowsL n M i)) (hu : Bools G u r) (hr : r = rowL n (M i)) : RowsV G (us ++ [u]) (rowsL n M (i + 1)) := by
  rw [rowsL_succ, ← hr]; exact All2.snoc h hu
theorem rowsV_one {G : Ghost} : ∀ {us : List Value} {rs : List (List Bool)}, RowsV G us rs → All2 (BoolsR G) (us.map fun u => [u]) rs
  | [], [], _ => trivial
  | _ :: _, _ :: _, h => ⟨⟨_, rfl, h.1⟩, rowsV_one h.2⟩
  | [], _ :: _, h => h.elim
  | _ :: _, [], h => h.elim
theorem flat_ones (us : List Value) : (us.map fun u => [u]).flatten = us := by induction us with | nil => rfl | cons u us ih => rw [List.map_cons, List.flatten_cons, ih]; rfl
theorem Mat.of {G : Ghost} {v : Value} {n m : Nat} {us : List Value} {M : BMat} (h : Sl G v 1 m us) (hm : m = us.length) (hs : RowsV G us (rowsL n M (n + 1))) : Mat G v n M :=
  LstR.ofSl h (flat_ones us).symm (hm.trans (All2.length hs)) (rowsV_one hs) (fun c hc => by obtain ⟨u, _, rfl⟩ := List.mem_map.1 hc; rfl)
theorem Mat.congr {G : Ghost} {v : Value} {n : Nat} {M M' : BMat} (hm : Mat G v n M) (h : ∀ i j, i ≤ n → j ≤ n → M i j = M' i j) : Mat G v n M' := by
  unfold Mat at *; rw [← rowsL_congr (M := M) (fun k hk j hj => h k j (by omega) hj)]; exact hm

/-! ### what the reference reckons -/
def unF (a c : BMat) : BMat := fun i j => a i j || c i j
def accF (a c : BMat) (i m j : Nat) : Bool := (List.range m).any fun k => decide (i ≤ k) && decide (k ≤ j) && (a i k && c k j)
def prF (n : Nat) (a c : BMat) : BMat := fun i j => accF a c i (n + 1) j
theorem acc_succ (a c : BMat) (i m j : Nat) : accF a c i (m + 1) j = (accF a c i m j || (decide (i ≤ m) && decide (m ≤ j) && (a i m && c m j))) := by
  unfold accF; rw [List.range_succ, List.any_append]; simp
theorem acc_0 {a c : BMat} {i m j : Nat} (h : m ≤ i) : accF a c i m j = false := by
  unfold accF; rw [List.any_eq_false]; intro k hk
  have := List.mem_range.1 hk
  rw [show decide (i ≤ k) = false from decide_eq_false (by omega)]; simp
/-- The row of a product while the factor m is at its column j. -/
def psF (a c : BMat) (i m j k : Nat) : Bool := accF a c i m k || (decide (m ≤ k) && decide (k < j) && (a i m && c m k))
theorem ps_0 {a c : BMat} {i m k : Nat} : psF a c i m m k = accF a c i m k := by
  unfold psF
  by_cases h : m ≤ k
  · rw [show decide (k < m) = false from decide_eq_false (by omega)]; simp
  · rw [show decide (m ≤ k) = false from decide_eq_false h]; simp
theorem ps_at {a c : BMat} {i m j : Nat} (h : m ≤ j) : psF a c i m j j = accF a c i m j ∧ psF a c i m (j + 1) j = (accF a c i m j || (a i m && c m j)) := by
  unfold psF
  rw [show decide (j < j) = false from decide_eq_false (by omega), show decide (j < j + 1) = true from decide_eq_true (by omega), show decide (m ≤ j) = true from decide_eq_true h]; simp
theorem ps_ne {a c : BMat} {i m j k : Nat} (h : k ≠ j) : psF a c i m (j + 1) k = psF a c i m j k := by
  unfold psF; rw [show decide (k < j + 1) = decide (k < j) from decide_eq_decide.2 (by omega)]
theorem ps_end {n : Nat} {a c : BMat} {i m k : Nat} (hi : i ≤ m) (hk : k ≤ n) : psF a c i m (n + 1) k = accF a c i (m + 1) k := by
  rw [acc_succ]; unfold psF; rw [show decide (k < n + 1) = true from decide_eq_true (by omega), show decide (i ≤ m) = true from decide_eq_true hi]; simp
def oneM : BMat := fun i j => decide (i = j)
def zeM : BMat := fun _ _ => false
theorem oneM_row {n i : Nat} : (List.replicate (n + 1) (Value.bool false)).set i (.bool true) = (rowL n (oneM i)).map boolV := by
  rw [rowV_zero (f := fun _ => false) (fun _ _ => rfl)]
  exact rowV_set (decide_eq_true rfl) (fun k _ hk => decide_eq_false (fun h => hk h.symm))
theorem zeM_row {n i : Nat} : List.replicate (n + 1) (Value.bool false) = (rowL n (zeM i)).map boolV := rowV_zero (fun _ _ => rfl)
def pwF (n : Nat) (a : BMat) : Nat → BMat
  | 0 => oneM
  | k + 1 => prF n (pwF n a k) a
def outF (n : Nat) (a : BMat) (mn : Nat) : Nat → BMat
  | 0 => fun _ _ => false
  | k + 1 => if mn ≤ k then unF (outF n a mn k) (pwF n a k) else outF n a mn k
def repF (n : Nat) (a : BMat) (mn most : Nat) : BMat := outF n a mn (most + 1)

/-! ### they are the sets of ends -/
def getB (S : List Bool) (j : Nat) : Bool := S.getD j false
theorem getB_iff {S : List Bool} {j : Nat} : getB S j = true ↔ inS S j := by
  unfold getB inS; rw [List.getD_eq_getElem?_getD]
  cases S[j]? <;> simp
theorem bool_iff {p q : Bool} (h : p = true ↔ q = true) : p = q := by cases p <;> cases q <;> simp at *
def eN (l : List NodeV) (b : List UInt8) (k : Nat) : BMat := fun i j => getB (endsN l b k i) j
theorem rowL_eN (l : List NodeV) (b : List UInt8) (k i : Nat) : rowL b.length (eN l b k i) = endsN l b k i := by
  apply List.ext_getElem?; intro j
  have hl := endsN_len l b k i
  by_cases h : j ≤ b.length
  · rw [rowL_at h, List.getElem?_eq_getElem (by omega)]; unfold eN getB; rw [List.getD_eq_getElem?_getD, List.getElem?_eq_getElem (by omega)]; rfl
  · rw [List.getElem?_eq_none (by rw [rowL_len]; omega), List.getElem?_eq_none (by omega)]
theorem rep_le {n : NodeV} {i : Int} (h : nodeE n i = 0) (hk : n.kind = 8) : n.mx < 0 ∨ n.mn ≤ n.mx := by
  unfold nodeE at h
  repeat' split at h
  all_goals first | (cases h; done) | omega
theorem tree_ok {l : List NodeV} (he : errF 0 l = 0) : ∀ i, i < l.length → RgOk (treeA l i) := by
  intro i
  induction i using Nat.strongRecOn with
  | ind i ih =>
    intro hi
    have hne := err_at (l := l) 0 he i hi (Nat.zero_le _)
    have hop := nodeE_ops hne
    have hk := nodeE_kind hne
    have hl : 0 < arF l[i].kind → RgOk (treeA l l[i].l.toNat) := fun ha => by have := ops_l hop ha; exact ih _ (by omega) (by omega)
    have hr : 1 < arF l[i].kind → RgOk (treeA l l[i].r.toNat) := fun ha => by have := ops_r hop ha; exact ih _ (by omega) (by omega)
    rw [treeA_eq he hi]; unfold mkT
    by_cases h1 : l[i].kind = 1
    · rw [if_pos h1]; exact trivial
    rw [if_neg h1]
    by_cases h2 : l[i].kind = 2
    · rw [if_pos h2]; exact trivial
    rw [if_neg h2]
    by_cases h3 : l[i].kind = 3
    · rw [if_pos h3]; exact trivial
    rw [if_neg h3]
    by_cases h4 : l[i].kind = 4
    · have ha := arF_2 (.inl h4); rw [if_pos h4]; exact ⟨hl (by omega), hr (by omega)⟩
    rw [if_neg h4]
    by_cases h5 : l[i].kind = 5
    · have ha := arF_2 (.inr (.inl h5)); rw [if_pos h5]; exact ⟨hl (by omega), hr (by omega)⟩
    rw [if_neg h5]
    by_cases h6 : l[i].kind = 6
    · have ha := arF_2 (.inr (.inr h6)); rw [if_pos h6]; exact ⟨hl (by omega), hr (by omega)⟩
    rw [if_neg h6]
    by_cases h7 : l[i].kind = 7
    · have ha := arF_1 (.inl h7); rw [if_pos h7]; exact hl (by omega)
    rw [if_neg h7]
    have h8 : l[i].kind = 8 := by omega
    have ha := arF_1 (.inr h8)
    exact ⟨(rep_rng hne h8).1, rep_le hne h8, hl (by omega)⟩
theorem eN_low {l : List NodeV} {b : List UInt8} (he : errF 0 l = 0) {k i j : Nat} (hk : k < l.length) (hi : i ≤ b.length) (h : ¬ (i ≤ j ∧ j ≤ b.length)) : eN l b k i j = false := by
  rw [← Bool.not_eq_true]; intro ht
  have := (ends_lang b _ (tree_ok he k hk) i j hi).1 (getB_iff.1 ht)
  exact h ⟨this.1, this.2.1⟩
theorem eN_rng {l : List NodeV} {b : List UInt8} (he : errF 0 l = 0) {k i j : Nat} (hk : k < l.length) (hi : i ≤ b.length) (h : eN l b k i j = true) : i ≤ j ∧ j ≤ b.length := by
  have := (ends_lang b _ (tree_ok he k hk) i j hi).1 (getB_iff.1 h)
  exact ⟨this.1, this.2.1⟩
def TabV (G : Ghost) (us : List Value) (l : List NodeV) (b : List UInt8) : Prop := ∀ (q : Nat) (h : q < us.length), Mat G us[q] b.length (eN l b q)
theorem TabV.mono {G G' : Ghost} (h : G.le G') {us : List Value} {l : List NodeV} {b : List UInt8} (ht : TabV G us l b) : TabV G' us l b := fun q hq => (ht q hq).mono h
theorem TabV.push {G : Ghost} {us : List Value} {l : List NodeV} {b : List UInt8} (ht : TabV G us l b) {u : Value} {k : Nat} (hu : Mat G u b.length (eN l b k)) (hk : us.length = k) : TabV G (us ++ [u]) l b := fun q hq => by
  rw [List.length_append, List.length_singleton] at hq
  by_cases h : q < us.length
  · rw [List.getElem_append_left h]; exact ht q h
  · obtain rfl : q = us.length := by omega
    rw [List.getElem_append_right (Nat.le_refl _)]; simp only [Nat.sub_self, List.getElem_cons_zero]; rw [hk]; exact hu
section
variable {l : List NodeV} {b : List UInt8} {k i j : Nat}
theorem eN_1 (he : errF 0 l = 0) (hk : k < l.length) (h : l[k].kind = 1) : eN l b k i j = false := by
  rw [← Bool.not_eq_true]; intro ht
  unfold eN at ht; rw [endsN_1 he hk h] at ht
  exact not_rep _ _ (getB_iff.1 ht)
theorem eN_2 (he : errF 0 l = 0) (hk : k < l.length) (h : l[k].kind = 2) (hi : i ≤ b.length) : eN l b k i j = decide (i = j) := by
  apply bool_iff; unfold eN; rw [endsN_2 he hk h, getB_iff, inS_one hi, decide_eq_true_iff]; exact eq_comm
theorem eN_3 (he : errF 0 l = 0) (hk : k < l.length) (h : l[k].kind = 3) (hj : j ≤ b.length) : eN l b k i j = (decide (j = i + 1) && (b[i]?.map (hasF l[k].c)).getD false) := by
  apply bool_iff; unfold eN; rw [endsN_3 he hk h, getB_iff, Bool.and_eq_true, decide_eq_true_iff]
  split
  · rename_i hp
    rcases Nat.lt_or_ge i b.length with hi | hi
    · rw [inS_one (by omega)]; exact ⟨fun e => ⟨e, hp⟩, fun e => e.1⟩
    · rw [List.getElem?_eq_none hi] at hp; cases hp
  · rename_i hp; exact ⟨fun e => absurd e (not_rep _ _), fun e => absurd e.2 hp⟩
theorem eN_4 (he : errF 0 l = 0) (hk : k < l.length) (h : l[k].kind = 4) : eN l b k i j = true ↔ ∃ m, eN l b l[k].l.toNat i m = true ∧ eN l b l[k].r.toNat m j = true := by
  unfold eN; rw [endsN_4 he hk h, getB_iff, (afterB_spec (endsN_len l b _) _).2 j]
  exact exists_congr fun m => by rw [getB_iff, getB_iff]
theorem zip_at {f : Bool → Bool → Bool} {S T : List Bool} (hl : S.length = T.length) (h0 : f false false = false) : getB (List.zipWith f S T) j = f (getB S j) (getB T j) := by
  unfold getB; simp only [List.getD_eq_getElem?_getD, List.getElem?_zipWith]
  rcases Nat.lt_or_ge j S.length with h | h
  · rw [List.getElem?_eq_getElem h, List.getElem?_eq_getElem (by omega)]; rfl
  · rw [List.getElem?_eq_none h, List.getElem?_eq_none (by omega)]; exact h0.symm
theorem eN_5 (he : errF 0 l = 0) (hk : k < l.length) (h : l[k].kind = 5) : eN l b k i j = (eN l b l[k].l.toNat i j || eN l b l[k].r.toNat i j) := by
  unfold eN; rw [endsN_5 he hk h, zip_at (by rw [endsN_len, endsN_len]) rfl]
  cases getB (endsN l b l[k].l.toNat i) j <;> cases getB (endsN l b l[k].r.toNat i) j <;> rfl
theorem eN_6 (he : errF 0 l = 0) (hk : k < l.length) (h : l[k].kind = 6) : eN l b k i j = (eN l b l[k].l.toNat i j && eN l b l[k].r.toNat i j) := by
  unfold eN; rw [endsN_6 he hk h, zip_at (by rw [endsN_len, endsN_len]) rfl]
theorem eN_7 (he : errF 0 l = 0) (hk : k < l.length) (h : l[k].kind = 7) (hij : i ≤ j) (hj : j ≤ b.length) : eN l b k i j = !eN l b l[k].l.toNat i j := by
  have hl := endsN_len l b l[k].l.toNat i
  unfold eN; rw [endsN_7 he hk h]; unfold getB
  rw [List.getD_eq_getElem?_getD, List.getD_eq_getElem?_getD, List.getElem?_mapIdx, List.getElem?_eq_getElem (by omega)]
  simp [hij]
/-- A node's entries, but for repetitions. -/
def eK (l : List NodeV) (b : List UInt8) (k : Nat) : BMat := fun i j => if kindAt l k = 8 then false else eN l b k i j
theorem eK_8 (hk : k < l.length) (h : l[k].kind = 8) : eK l b k i j = false := by unfold eK; rw [if_pos (by rw [kindAt_get hk]; exact h)]
theorem eK_n (hk : k < l.length) (h : ¬ l[k].kind = 8) : eK l b k i j = eN l b k i j := by unfold eK; rw [if_neg (by rw [kindAt_get hk]; exact h)]
theorem eK_low (he : errF 0 l = 0) (hk : k < l.length) (hi : i ≤ b.length) (h : j < i) : eK l b k i j = false := by
  unfold eK; split
  · rfl
  · exact eN_low he hk hi (by omega)
end
/-! ### repetitions -/
section
variable {l : List NodeV} {b : List UInt8} {c : Nat}
theorem powR_low (he : errF 0 l = 0) (hc : c < l.length) : ∀ (k i j : Nat), i ≤ b.length → PowR (fun x y => inS (endsN l b c x) y) k i j → i ≤ j ∧ j ≤ b.length
  | 0, i, j, hi, h => by obtain rfl : j = i := h; exact ⟨Nat.le_refl _, hi⟩
  | k + 1, i, j, hi, ⟨m, h1, h2⟩ => by
    obtain ⟨a1, a2⟩ := powR_low he hc k i m hi h1
    have := (ends_lang b _ (tree_ok he c hc) m j a2).1 h2
    omega
theorem pw_iff (he : errF 0 l = 0) (hc : c < l.length) : ∀ (k i j : Nat), i ≤ b.length → (pwF b.length (eN l b c) k i j = true ↔ PowR (fun x y => inS (endsN l b c x) y) k i j)
  | 0, i, j, hi => by show decide (i = j) = true ↔ j = i; rw [decide_eq_true_iff]; exact eq_comm
  | k + 1, i, j, hi => by
    show prF b.length (pwF b.length (eN l b c) k) (eN l b c) i j = true ↔ ∃ m, PowR _ k i m ∧ inS (endsN l b c m) j
    unfold prF accF
    rw [List.any_eq_true]
    constructor
    · rintro ⟨m, hm, h⟩
      have hm := List.mem_range.1 hm
      simp only [Bool.and_eq_true, decide_eq_true_iff] at h
      exact ⟨m, (pw_iff he hc k i m hi).1 h.2.1, getB_iff.1 h.2.2⟩
    · rintro ⟨m, h1, h2⟩
      obtain ⟨a1, a2⟩ := powR_low he hc k i m hi h1
      have a3 := (ends_lang b _ (tree_ok he c hc) m j a2).1 h2
      refine ⟨m, List.mem_range.2 (by omega), ?_⟩
      simp only [Bool.and_eq_true, decide_eq_true_iff]
      exact ⟨⟨a1, a3.1⟩, (pw_iff he hc k i m hi).2 h1, getB_iff.2 h2⟩
theorem out_iff {n : Nat} {a : BMat} {mn : Nat} : ∀ (k i j : Nat), outF n a mn k i j = true ↔ ∃ t, mn ≤ t ∧ t < k ∧ pwF n a t i j = true
  | 0, i, j => ⟨fun h => (by cases h), fun ⟨t, _, h, _⟩ => absurd h (Nat.not_lt_zero t)⟩
  | k + 1, i, j => by
    unfold outF
    by_cases h : mn ≤ k
    · rw [if_pos h]; unfold unF; rw [Bool.or_eq_true, out_iff k i j]
      constructor
      · rintro (⟨t, h1, h2, h3⟩ | h3)
        · exact ⟨t, h1, by omega, h3⟩
        · exact ⟨k, h, by omega, h3⟩
      · rintro ⟨t, h1, h2, h3⟩
        by_cases ht : t = k
        · subst ht; exact .inr h3
        · exact .inl ⟨t, h1, by omega, h3⟩
    · rw [if_neg h, out_iff k i j]
      exact ⟨fun ⟨t, h1, h2, h3⟩ => ⟨t, h1, by omega, h3⟩, fun ⟨t, h1, h2, h3⟩ => ⟨t, h1, by omega, h3⟩⟩
/-- How many factors the reference takes at most. -/
def mostF (n : Nat) (mn mx : Int) : Nat := if mx < 0 then mn.toNat + n + 1 else mx.toNat
theorem rep_eq (he : errF 0 l = 0) {k : Nat} (hk : k < l.length) (h : l[k].kind = 8) {i j : Nat} (hi : i ≤ b.length) : repF b.length (eN l b l[k].l.toNat) l[k].mn.toNat (mostF b.length l[k].mn l[k].mx) i j = eN l b k i j := by
  have hne := err_at (l := l) 0 he k hk (Nat.zero_le _)
  have hrg := rep_rng hne h
  have hle := rep_le hne h
  have hop := ops_l (nodeE_ops hne) (by have ha := arF_1 (.inr h); omega)
  have hc : l[k].l.toNat < l.length := by omega
  apply bool_iff
  unfold repF; rw [out_iff]
  unfold eN; rw [getB_iff, endsN_8 he hk h]
  have hT : ∀ j, inS (timesB b.length (endsN l b l[k].l.toNat) l[k].mn l[k].mx (oneB b.length i)) j ↔ ∃ t : Nat, l[k].mn ≤ (t : Int) ∧ t ≤ mostF b.length l[k].mn l[k].mx ∧ PowR (fun x y => inS (endsN l b l[k].l.toNat x) y) t i j := by
    intro j
    unfold mostF
    by_cases hm : l[k].mx < 0
    · rw [if_pos hm]
      have e : timesB b.length (endsN l b l[k].l.toNat) l[k].mn l[k].mx (oneB b.length i) = timesB b.length (endsN l b l[k].l.toNat) l[k].mn (l[k].mn + b.length + 1) (oneB b.length i) := by
        unfold timesB; rw [if_pos hm, if_neg (by omega), show (l[k].mn + (b.length : Int) + 1 - l[k].mn).toNat = b.length + 1 by omega]
      rw [e, (timesB_spec (endsN_len l b _) hrg.1 (.inr (by omega)) hi).2 j]
      exact exists_congr fun t => by
        constructor
        · rintro ⟨h1, h2, h3⟩; exact ⟨h1, by omega, h3⟩
        · rintro ⟨h1, h2, h3⟩; exact ⟨h1, .inr (by omega), h3⟩
    · rw [if_neg hm, (timesB_spec (endsN_len l b _) hrg.1 hle hi).2 j]
      exact exists_congr fun t => by
        constructor
        · rintro ⟨h1, h2, h3⟩; exact ⟨h1, by omega, h3⟩
        · rintro ⟨h1, h2, h3⟩; exact ⟨h1, .inr (by omega), h3⟩
  rw [hT j]
  exact exists_congr fun t => by
    constructor
    · rintro ⟨h1, h2, h3⟩; exact ⟨by omega, by omega, (pw_iff he hc t i j hi).1 h3⟩
    · rintro ⟨h1, h2, h3⟩; exact ⟨by omega, by omega, (pw_iff he hc t i j hi).2 h3⟩
end

/-! ### rows of one's own in a list of any length -/
def rowAd (n b : Nat) : Value := .slice (some ⟨b, 0, none⟩) (n + 1) (n + 1)
def rowRs (e n b : Nat) (r : List Bool) : Res := .row e 1 (rowAd n b) (n + 1) (r.map boolV)
def tailT (e n : Nat) (bs : List Nat) (S : List (List Bool)) : List Res := List.zipWith (rowRs e n) bs S
theorem tail_at {e n : Nat} {bs : List Nat} {S : List (List Bool)} {i : Nat} (h : i < bs.length) {r : List Bool} (hr : S[i]? = some r) : (tailT e n bs S)[i]? = some (rowRs e n bs[i] r) := by
  unfold tailT; rw [List.getElem?_zipWith, List.getElem?_eq_getElem h, hr]
theorem tail_set {e n : Nat} {bs : List Nat} {S : List (List Bool)} {i : Nat} (h : i < bs.length) {r : List Bool} : (tailT e n bs S).set i (rowRs e n bs[i] r) = tailT e n bs (S.set i r) := by
  apply List.ext_getElem?; intro k
  unfold tailT
  rw [List.getElem?_set, List.getElem?_zipWith, List.getElem?_zipWith, List.getElem?_set, List.length_zipWith]
  by_cases hk : i = k
  · subst hk
    rw [if_pos rfl, if_pos rfl, List.getElem?_eq_getElem h]
    by_cases h2 : i < S.length
    · rw [if_pos (by omega), if_pos h2]
    · rw [if_neg (by omega), if_neg h2]
  · rw [if_neg hk, if_neg hk]
theorem tail_snoc {e n : Nat} {bs : List Nat} {S : List (List Bool)} {b : Nat} {r : List Bool} (h : bs.length = S.length) : tailT e n (bs ++ [b]) (S ++ [r]) = tailT e n bs S ++ [rowRs e n b r] := by
  unfold tailT; rw [List.zipWith_append h]; rfl
section
variable {c : Ctx} {G : Ghost} {H H' : List Res} {w : World}
theorem St.perm (h : St c G H w) (hp : H'.Perm H) : St c G H' w :=
  ⟨h.os, h.tape, h.output, h.size, h.old, h.le, h.new, h.ghost, fun s hs => h.hold s (hp.mem_iff.1 hs), fun s hs => h.off s (hp.mem_iff.1 hs), (hp.pairwise_iff (fun {a b} hab k hk hk' => hab k hk' hk)).2 h.apart⟩
theorem St.tailPush {A B C : Res} {T : List Res} (h : St c G (A :: B :: C :: T) w) : St c G (A :: B :: (T ++ [C])) w :=
  St.perm h (((List.perm_append_singleton C T).cons B).cons A)
theorem St.fixTail (hM : ∀ k, ¬ c.M k) {A B : Res} {e n : Nat} : ∀ (bs : List Nat) (S : List (List Bool)) (G : Ghost), bs.length = S.length → (∀ r ∈ S, r.length = n + 1) → St c G (A :: B :: tailT e n bs S) w → ∃ G', G.le G' ∧ RowsV G' (bs.map (rowAd n)) S ∧ St c G' [A, B] w
  | [], [], G, _, _, h => ⟨G, Ghost.le.refl _, trivial, h⟩
  | [], _ :: _, _, h, _, _ => by cases h
  | _ :: _, [], _, h, _, _ => by cases h
  | b :: bs, r :: S, G, hl, hr, h => by
    have h2 : St c G (rowRs e n b r :: A :: B :: tailT e n bs S) w := h.front 2 rfl rfl
    obtain ⟨G1, g1, f1, h3⟩ := St.fixRow h2 (fun k _ => hM k)
    obtain ⟨G2, g2, f2, h4⟩ := St.fixTail hM bs S G1 (by simpa using hl) (fun x hx => hr x (List.mem_cons_of_mem _ hx)) h3
    refine ⟨G2, g1.trans g2, ⟨?_, f2⟩, h4⟩
    show Sl G2 (rowAd n b) 1 r.length (r.map boolV)
    rw [hr r (List.mem_cons_self ..)]; exact f1.mono g2
end
theorem map_rowAd {n i : Nat} {bs : List Nat} (h : i < bs.length) : (bs.map (rowAd n))[i]? = some (.slice (some ⟨bs[i], 0, none⟩) (n + 1) (n + 1)) := by rw [List.getElem?_map, List.getElem?_eq_getElem h]; rfl
theorem rowsL_row {n : Nat} {M : BMat} {i : Nat} : ∀ r ∈ rowsL n M i, r.length = n + 1 := fun r hr => by
  unfold rowsL at hr; obtain ⟨k, _, rfl⟩ := List.mem_map.1 hr; exact rowL_len
/-- The entries before (i, j) are done. -/
def stM (F : BMat) (i j : Nat) : BMat := fun a c => (decide (a < i) || (decide (a = i) && decide (c < j))) && F a c
theorem stM_0 {n : Nat} {F : BMat} : rowsL n zeM (n + 1) = rowsL n (stM F 0 0) (n + 1) := rowsL_congr fun k _ j _ => by
  unfold stM zeM; rw [show decide (k < 0) = false from rfl, show decide (j < 0) = false from rfl]; simp
theorem stM_start {n i : Nat} {F : BMat} (h : ∀ a c, a ≤ n → c < a → F a c = false) : rowsL n (stM F i 0) (n + 1) = rowsL n (stM F i i) (n + 1) := rowsL_congr fun a ha c _ => by
  unfold stM; rw [show decide (c < 0) = false from rfl]
  by_cases h1 : a = i
  · subst h1
    by_cases h2 : c < a
    · rw [h a c (by omega) h2]; simp
    · rw [show decide (c < a) = false from decide_eq_false h2]
  · rw [show decide (a = i) = false from decide_eq_false h1]; simp
theorem stM_row {n i : Nat} {F : BMat} : rowsL n (stM F i (n + 1)) (n + 1) = rowsL n (stM F (i + 1) 0) (n + 1) := rowsL_congr fun a _ c hc => by
  unfold stM; rw [show decide (c < n + 1) = true from decide_eq_true (by omega), show decide (c < 0) = false from rfl, Bool.and_true, Bool.and_false, Bool.or_false]
  congr 1
  by_cases h1 : a < i
  · rw [decide_eq_true h1, decide_eq_true (show a < i + 1 by omega)]; rfl
  · rw [decide_eq_false h1, Bool.false_or]; exact decide_eq_decide.2 (by omega)
theorem stM_end {n : Nat} {F : BMat} : rowsL n (stM F (n + 1) 0) (n + 1) = rowsL n F (n + 1) := rowsL_congr fun a ha c _ => by
  unfold stM; rw [decide_eq_true ha]; rfl
section
variable {x : Cx} {Q : Exit → Env → World → Prop} {E : Env} {K : Value → World → Prop} {w : World} {d : Option Tmp} {ty : TypeId} {pos : String} {aft : Array Edge} {g : Option (Nat × Bool)} {c : Ctx} {G : Ghost}
/-- A store into one of the rows. -/
theorem S_stTail {o p : Operand} {t e n i j : Nat} {bs : List Nat} {A B : Res} {F : BMat} {v : Bool} (hs : St c G (A :: B :: tailT e n bs (rowsL n (stM F i j) (n + 1))) w) (hS : ∀ w, (sizeOf t).run x.P w = .ok 1 w) (hi : i < bs.length) (hin : i ≤ n) (hj : j ≤ n)
    (h1 : ev E o = some (.pointer (some ⟨bs[i], j, none⟩))) (h2 : ev E p = some (.bool v)) (hv : F i j = v) (k : ∀ w', St c G (A :: B :: tailT e n bs (rowsL n (stM F i (j + 1)) (n + 1))) w' → K undef w') : S x ⟨d, .store t o p, ty, pos, aft, g⟩ Q K E w := by
  have hr := tail_at (e := e) (n := n) hi (rowsL_at (n := n) (M := stM F i j) (i := n + 1) (k := i) (by omega))
  have hs1 : St c G (rowRs e n bs[i] (rowL n (stM F i j i)) :: A :: B :: (tailT e n bs (rowsL n (stM F i j) (n + 1))).eraseIdx i) w := hs.front (i + 2) hr rfl
  refine S_stRow hs1 hS h1 h2 rfl (by omega) fun w' hs2 => k w' ?_
  have hset : (rowsL n (stM F i j) (n + 1)).set i ((rowL n (stM F i j i)).set j v) = rowsL n (stM F i (j + 1)) (n + 1) := rowsL_set (by omega)
    (by unfold stM; rw [hv, show decide (i = i) = true from decide_eq_true rfl, show decide (j < j + 1) = true from decide_eq_true (by omega)]; simp)
    (fun a b _ _ hab => by
      unfold stM
      by_cases ha : a = i
      · have hb : b ≠ j := fun h => hab ⟨ha, h⟩
        rw [show decide (b < j + 1) = decide (b < j) from decide_eq_decide.2 (by omega)]
      · rw [show decide (a = i) = false from decide_eq_false ha]; simp)
  have hrow : Res.row e 1 (.slice (some ⟨bs[i], 0, none⟩) (n + 1) (n + 1)) (n + 1) (((rowL n (stM F i j i)).map boolV).set j (.bool v)) = rowRs e n bs[i] ((rowL n (stM F i j i)).set j v) := by
    unfold rowRs rowAd; rw [List.map_set]; rfl
  rw [hrow] at hs2
  refine St.perm hs2 ?_
  rw [← hset, ← tail_set hi]
  have hp := perm_front (H := A :: B :: (tailT e n bs (rowsL n (stM F i j) (n + 1))).set i (rowRs e n bs[i] ((rowL n (stM F i j i)).set j v))) (i + 2) (r := rowRs e n bs[i] ((rowL n (stM F i j i)).set j v)) (by
    show ((tailT e n bs (rowsL n (stM F i j) (n + 1))).set i _)[i]? = _
    rw [List.getElem?_set, if_pos rfl, if_pos (by unfold tailT; rw [List.length_zipWith, rowsL_len]; omega)])
  have he : (A :: B :: (tailT e n bs (rowsL n (stM F i j) (n + 1))).set i (rowRs e n bs[i] ((rowL n (stM F i j i)).set j v))).eraseIdx (i + 2) = A :: B :: (tailT e n bs (rowsL n (stM F i j) (n + 1))).eraseIdx i := by
    show A :: B :: ((tailT e n bs (rowsL n (stM F i j) (n + 1))).set i _).eraseIdx i = _
    rw [List.eraseIdx_set_eq]
  rw [he] at hp
  exact hp.symm
end
end Go.Proofs.YtkmgbcjfidpmgaaGreatDoor
