/- Package regex: the tree of a list of nodes in any order; what a matcher remembers. -/
import Derived.Test.YtkmgbcjfidpmgaaGreatDoorFmt
import Derived.Test.YtkmgbcjfidpmgaaGreatDoorExKeys
namespace Go.Proofs.YtkmgbcjfidpmgaaGreatDoor
open Go Go.Ex

def nodeAt (l : List NodeV) (i : Nat) : NodeV := l.getD i (leafN 0 noC)
def mkT (n : NodeV) (a b : Rg) : Rg :=
  if n.kind = 1 then .none else if n.kind = 2 then .eps else if n.kind = 3 then .cls n.c else if n.kind = 4 then .cat a b else if n.kind = 5 then .alt a b else if n.kind = 6 then .and a b
  else if n.kind = 7 then .not a else .rep n.mn n.mx a
def treeG (l : List NodeV) : Nat → Nat → Rg
  | 0, _ => .none
  | f + 1, i => mkT (nodeAt l i) (treeG l f (nodeAt l i).l.toNat) (treeG l f (nodeAt l i).r.toNat)
/-- The tree that ends with node i. -/
def treeA (l : List NodeV) (i : Nat) : Rg := treeG l (i + 1) i
theorem nodeAt_get {l : List NodeV} {i : Nat} (h : i < l.length) : nodeAt l i = l[i] := by unfold nodeAt; rw [List.getD_eq_getElem?_getD, List.getElem?_eq_getElem h]; rfl
theorem mkT_leaf {n : NodeV} {a b c d : Rg} (hk : n.kind = 1 ∨ n.kind = 2 ∨ n.kind = 3) : mkT n a b = mkT n c d := by
  unfold mkT; rcases hk with h | h | h <;> rw [h] <;> rfl
theorem mkT_one {n : NodeV} {a b d : Rg} (hk : n.kind = 7 ∨ n.kind = 8) : mkT n a b = mkT n a d := by
  unfold mkT; rcases hk with h | h <;> rw [h] <;> rfl
theorem treeG_more {l : List NodeV} (he : errF 0 l = 0) : ∀ (i : Nat), i < l.length → ∀ f g, i < f → i < g → treeG l f i = treeG l g i := by
  intro i
  induction i using Nat.strongRecOn with
  | ind i ih =>
    intro hi f g hf hg
    obtain ⟨f, rfl⟩ : ∃ k, f = k + 1 := ⟨f - 1, by omega⟩
    obtain ⟨g, rfl⟩ : ∃ k, g = k + 1 := ⟨g - 1, by omega⟩
    have hne := err_at (l := l) 0 he i hi (Nat.zero_le _)
    have hop := nodeE_ops hne
    have hk := nodeE_kind hne
    rw [treeG, treeG, nodeAt_get hi]
    by_cases k2 : l[i].kind = 4 ∨ l[i].kind = 5 ∨ l[i].kind = 6
    · have ha := arF_2 k2
      have h1 := ops_l hop (by omega)
      have h2 := ops_r hop (by omega)
      rw [ih l[i].l.toNat (by omega) (by omega) f g (by omega) (by omega), ih l[i].r.toNat (by omega) (by omega) f g (by omega) (by omega)]
    · by_cases k1 : l[i].kind = 7 ∨ l[i].kind = 8
      · have ha := arF_1 k1
        have h1 := ops_l hop (by omega)
        rw [ih l[i].l.toNat (by omega) (by omega) f g (by omega) (by omega)]
        exact mkT_one k1
      · exact mkT_leaf (by omega)
/-- A node's tree, of its operands' trees. -/
theorem treeA_eq {l : List NodeV} (he : errF 0 l = 0) {i : Nat} (hi : i < l.length) : treeA l i = mkT l[i] (treeA l l[i].l.toNat) (treeA l l[i].r.toNat) := by
  have hne := err_at (l := l) 0 he i hi (Nat.zero_le _)
  have hop := nodeE_ops hne
  have hk := nodeE_kind hne
  unfold treeA
  rw [treeG, nodeAt_get hi]
  by_cases k2 : l[i].kind = 4 ∨ l[i].kind = 5 ∨ l[i].kind = 6
  · have ha := arF_2 k2
    have h1 := ops_l hop (by omega)
    have h2 := ops_r hop (by omega)
    rw [treeG_more he l[i].l.toNat (by omega) i (l[i].l.toNat + 1) (by omega) (by omega), treeG_more he l[i].r.toNat (by omega) i (l[i].r.toNat + 1) (by omega) (by omega)]
  · by_cases k1 : l[i].kind = 7 ∨ l[i].kind = 8
    · have ha := arF_1 k1
      have h1 := ops_l hop (by omega)
      rw [treeG_more he l[i].l.toNat (by omega) i (l[i].l.toNat + 1) (by omega) (by omega)]
      exact mkT_one k1
    · exact mkT_leaf (by omega)

/-! ### what a matcher remembers -/
def boolV (b : Bool) : Value := .bool b
def Bools (G : Ghost) (v : Value) (s : List Bool) : Prop := Sl G v 1 s.length (s.map boolV)
theorem Bools.mono {G G' : Ghost} (h : G.le G') {v : Value} {s : List Bool} (hb : Bools G v s) : Bools G' v s := Sl.mono h hb
theorem Bools.form {G : Ghost} {v : Value} {s : List Bool} (hb : Bools G v s) : ∃ A c, v = .slice A s.length c := by
  obtain ⟨A, c, h, _⟩ := hb; exact ⟨A, c, h⟩
def endsN (l : List NodeV) (b : List UInt8) (i f : Nat) : List Bool := endsB b (treeA l i) f
theorem endsN_len (l : List NodeV) (b : List UInt8) (i f : Nat) : (endsN l b i f).length = b.length + 1 := ends_len b _ f
def Memo (l : List NodeV) (b : List UInt8) (G : Ghost) (es : List MapEntry) : Prop := ∀ e ∈ es, ∃ i f : Nat, e.key = K2 i f ∧ f ≤ b.length ∧ Bools G e.val (endsN l b i f)
theorem Memo.mono {l : List NodeV} {b : List UInt8} {G G' : Ghost} (h : G.le G') {es : List MapEntry} (hm : Memo l b G es) : Memo l b G' es := fun e he => by
  obtain ⟨i, f, h1, h2, h3⟩ := hm e he
  exact ⟨i, f, h1, h2, h3.mono h⟩
theorem Memo.keys {l : List NodeV} {b : List UInt8} {G : Ghost} {es : List MapEntry} (hm : Memo l b G es) : Keys2 es := fun e he => by
  obtain ⟨i, f, h1, _⟩ := hm e he
  exact ⟨_, _, h1⟩
theorem Memo.at {l : List NodeV} {b : List UInt8} {G : Ghost} {es : List MapEntry} (hm : Memo l b G es) {e : MapEntry} (he : e ∈ es) {i f : Nat} (hk : e.key = K2 i f) : Bools G e.val (endsN l b i f) := by
  obtain ⟨i', f', h1, h2, h3⟩ := hm e he
  rw [h1, K2_inj] at hk
  obtain ⟨hk1, hk2⟩ := hk
  have e1 : i' = i := by omega
  have e2 : f' = f := by omega
  subst e1 e2; exact h3
theorem Memo.push {l : List NodeV} {b : List UInt8} {G : Ghost} {es : List MapEntry} (hm : Memo l b G es) {i f clk : Nat} {v : Value} (hf : f ≤ b.length) (hv : Bools G v (endsN l b i f)) : Memo l b G (es ++ [mapE (K2 i f) v clk]) := fun e he => by
  rcases List.mem_append.1 he with he | he
  · exact hm e he
  · obtain rfl : e = mapE (K2 i f) v clk := by simpa using he
    exact ⟨i, f, rfl, hf, hv⟩
/-- The new keys' nodes are less than i. -/
def Ext (i : Nat) (es es' : List MapEntry) : Prop := ∀ e ∈ es', e ∈ es ∨ ∃ j f : Nat, j < i ∧ e.key = K2 j f
theorem Ext.refl (i : Nat) (es : List MapEntry) : Ext i es es := fun _ h => .inl h
theorem Ext.trans {i : Nat} {a b c : List MapEntry} (h1 : Ext i a b) (h2 : Ext i b c) : Ext i a c := fun e he => by
  rcases h2 e he with h | h
  · exact h1 e h
  · exact .inr h
theorem Ext.more {i j : Nat} {a b : List MapEntry} (h1 : Ext i a b) (h : i ≤ j) : Ext j a b := fun e he => by
  rcases h1 e he with h2 | ⟨k, f, h2, h3⟩
  · exact .inl h2
  · exact .inr ⟨k, f, by omega, h3⟩
theorem Ext.push {i : Nat} {a b : List MapEntry} (h1 : Ext i a b) {f clk : Nat} {v : Value} : Ext (i + 1) a (b ++ [mapE (K2 i f) v clk]) := fun e he => by
  rcases List.mem_append.1 he with he | he
  · exact h1.more (Nat.le_succ _) e he
  · obtain rfl : e = mapE (K2 i f) v clk := by simpa using he
    exact .inr ⟨i, f, by omega, rfl⟩
theorem Ext.absent {i f : Nat} {a b : List MapEntry} (h1 : Ext i a b) (h : ∀ e ∈ a, e.key ≠ K2 i f) : ∀ e ∈ b, e.key ≠ K2 i f := fun e he hk => by
  rcases h1 e he with h2 | ⟨k, g, h2, h3⟩
  · exact h e h2 hk
  · rw [h3, K2_inj] at hk; omega

/-! ### the sets of ends, element by element -/
def mixL (a e : List Bool) (j : Nat) : List Bool := (orL a e).take j ++ a.drop j
theorem mix_len {a e : List Bool} (h : a.length = e.length) {j : Nat} (hj : j ≤ a.length) : (mixL a e j).length = a.length := by
  unfold mixL; rw [List.length_append, List.length_take, List.length_drop, orL_len a e h]; omega
theorem mix_0 (a e : List Bool) : mixL a e 0 = a := rfl
theorem mix_all {a e : List Bool} (h : a.length = e.length) : mixL a e a.length = orL a e := by
  unfold mixL; rw [List.drop_length, List.append_nil, List.take_of_length_le (by rw [orL_len a e h]; exact Nat.le_refl _)]
theorem mix_at {a e : List Bool} (h : a.length = e.length) {j : Nat} (hj : j < a.length) : (mixL a e j)[j]? = some a[j] := by
  unfold mixL
  rw [List.getElem?_append_right (by rw [List.length_take, orL_len a e h]; omega), List.length_take, orL_len a e h, Nat.min_eq_left (by omega), Nat.sub_self, List.getElem?_drop, Nat.add_zero, List.getElem?_eq_getElem hj]
theorem mix_step {a e : List Bool} (h : a.length = e.length) {j : Nat} (hj : j < a.length) : (mixL a e j).set j (a[j] || e[j]'(by omega)) = mixL a e (j + 1) := by
  have hl : ((orL a e).take j).length = j := by rw [List.length_take, orL_len a e h]; omega
  unfold mixL
  rw [List.set_append_right _ _ (by omega), hl, Nat.sub_self, List.drop_eq_getElem_cons hj, List.set_cons_zero, List.take_add_one, List.getElem?_eq_getElem (by rw [orL_len a e h]; exact hj)]
  have : (orL a e)[j]'(by rw [orL_len a e h]; exact hj) = (a[j] || e[j]'(by omega)) := by unfold orL; rw [List.getElem_zipWith]
  rw [this]; simp
theorem afterG_step {f : Nat → List Bool} {S : List Bool} {k : Nat} (h : k < S.length) (acc : List Bool) : afterG f k (S.drop k) acc = afterG f (k + 1) (S.drop (k + 1)) (if S[k] = true then orL acc (f k) else acc) := by
  rw [List.drop_eq_getElem_cons h, afterG]
theorem bool_row {S : List Bool} {k : Nat} (h : k < S.length) : (S.map boolV)[k]? = some (.bool S[k]) := by rw [List.getElem?_map, List.getElem?_eq_getElem h]; rfl
theorem mix_row {a e : List Bool} (h : a.length = e.length) {j : Nat} (hj : j < a.length) : ((mixL a e j).map boolV)[j]? = some (.bool a[j]) := by rw [List.getElem?_map, mix_at h hj]; rfl
theorem mix_set {a e : List Bool} (h : a.length = e.length) {j : Nat} (hj : j < a.length) {x : Bool} (hx : (a[j] || e[j]'(by omega)) = x) : ((mixL a e j).map boolV).set j (.bool x) = (mixL a e (j + 1)).map boolV := by
  rw [← mix_step h hj, List.map_set, hx]; rfl
theorem afterG_len {f : Nat → List Bool} {n : Nat} (hf : ∀ k, (f k).length = n) : ∀ (S : List Bool) (k : Nat) (acc : List Bool), acc.length = n → (afterG f k S acc).length = n
  | [], _, _, h => h
  | s :: t, k, acc, h => by
    rw [afterG]; refine afterG_len hf t (k + 1) _ ?_
    split
    · rw [orL_len _ _ (by rw [h, hf])]; exact h
    · exact h
theorem mix_same {a e : List Bool} (h : a.length = e.length) {j : Nat} (hj : j < a.length) (hx : (a[j] || e[j]'(by omega)) = a[j]) : mixL a e (j + 1) = mixL a e j := by
  rw [← mix_step h hj, hx]
  apply List.ext_getElem?
  intro i
  rw [List.getElem?_set]
  split
  · rename_i hij; subst hij
    rw [mix_at h hj, if_pos (by rw [mix_len h (by omega)]; exact hj)]
  · rfl
theorem or_ne {a e : List Bool} (h : a.length = e.length) {j : Nat} (hj : j < a.length) (h1 : a[j] = false) (h2 : e[j]'(by omega) = true) : ¬ orL a e = a := by
  intro he
  have h3 : (orL a e)[j]'(by rw [orL_len a e h]; exact hj) = (a[j] || e[j]'(by omega)) := by unfold orL; rw [List.getElem_zipWith]
  have h4 : (orL a e)[j]'(by rw [orL_len a e h]; exact hj) = a[j] := by simp only [he]
  rw [h3, h1, h2] at h4; cases h4
theorem after_len (l : List NodeV) (b : List UInt8) (i : Nat) (S : List Bool) : (afterB b.length (endsN l b i) S).length = b.length + 1 := (afterB_spec (fun k => endsN_len l b i k) S).1
theorem minB_step {n k : Nat} {f : Nat → List Bool} {S : List Bool} (h : 0 < k) : minB n f k S = minB n f (k - 1) (afterB n f S) := by
  obtain ⟨m, rfl⟩ : ∃ m, k = m + 1 := ⟨k - 1, by omega⟩
  rfl
theorem rounds_stop {n k : Nat} {f : Nat → List Bool} {S : List Bool} (h : 0 < k) (he : orL S (afterB n f S) = S) : roundsB n f k S = S := by
  obtain ⟨m, rfl⟩ : ∃ m, k = m + 1 := ⟨k - 1, by omega⟩
  rw [roundsB, if_pos he]
theorem rounds_go {n k : Nat} {f : Nat → List Bool} {S : List Bool} (h : 0 < k) (he : ¬ orL S (afterB n f S) = S) : roundsB n f k S = roundsB n f (k - 1) (orL S (afterB n f S)) := by
  obtain ⟨m, rfl⟩ : ∃ m, k = m + 1 := ⟨k - 1, by omega⟩
  rw [roundsB, if_neg he]; rfl
def roundsN (n : Nat) (mn mx : Int) : Nat := if mx < 0 then n + 1 else (mx - mn).toNat

/-! ### a node's set of ends, of its operands' -/
theorem endsN_1 {l : List NodeV} {b : List UInt8} (he : errF 0 l = 0) {i f : Nat} (hi : i < l.length) (hk : l[i].kind = 1) : endsN l b i f = List.replicate (b.length + 1) false := by
  unfold endsN; rw [treeA_eq he hi]; unfold mkT; rw [if_pos hk]; rfl
theorem endsN_2 {l : List NodeV} {b : List UInt8} (he : errF 0 l = 0) {i f : Nat} (hi : i < l.length) (hk : l[i].kind = 2) : endsN l b i f = oneB b.length f := by
  unfold endsN; rw [treeA_eq he hi]; unfold mkT; rw [if_neg (by omega), if_pos hk]; rfl
theorem endsN_3 {l : List NodeV} {b : List UInt8} (he : errF 0 l = 0) {i f : Nat} (hi : i < l.length) (hk : l[i].kind = 3) : endsN l b i f = if (b[f]?.map (hasF l[i].c)).getD false = true then oneB b.length (f + 1) else List.replicate (b.length + 1) false := by
  unfold endsN; rw [treeA_eq he hi]; unfold mkT; rw [if_neg (by omega), if_neg (by omega), if_pos hk]; rfl
theorem endsN_4 {l : List NodeV} {b : List UInt8} (he : errF 0 l = 0) {i f : Nat} (hi : i < l.length) (hk : l[i].kind = 4) : endsN l b i f = afterB b.length (endsN l b l[i].r.toNat) (endsN l b l[i].l.toNat f) := by
  unfold endsN; rw [treeA_eq he hi]; unfold mkT; rw [if_neg (by omega), if_neg (by omega), if_neg (by omega), if_pos hk]; rfl
theorem endsN_5 {l : List NodeV} {b : List UInt8} (he : errF 0 l = 0) {i f : Nat} (hi : i < l.length) (hk : l[i].kind = 5) : endsN l b i f = List.zipWith (fun p q => (p && q) || (p || q)) (endsN l b l[i].l.toNat f) (endsN l b l[i].r.toNat f) := by
  unfold endsN; rw [treeA_eq he hi]; unfold mkT; rw [if_neg (by omega), if_neg (by omega), if_neg (by omega), if_neg (by omega), if_pos hk]; rfl
theorem endsN_6 {l : List NodeV} {b : List UInt8} (he : errF 0 l = 0) {i f : Nat} (hi : i < l.length) (hk : l[i].kind = 6) : endsN l b i f = List.zipWith (fun p q => p && q) (endsN l b l[i].l.toNat f) (endsN l b l[i].r.toNat f) := by
  unfold endsN; rw [treeA_eq he hi]; unfold mkT; rw [if_neg (by omega), if_neg (by omega), if_neg (by omega), if_neg (by omega), if_neg (by omega), if_pos hk]; rfl
theorem endsN_7 {l : List NodeV} {b : List UInt8} (he : errF 0 l = 0) {i f : Nat} (hi : i < l.length) (hk : l[i].kind = 7) : endsN l b i f = (endsN l b l[i].l.toNat f).mapIdx fun j p => decide (f ≤ j) && !p := by
  unfold endsN; rw [treeA_eq he hi]; unfold mkT; rw [if_neg (by omega), if_neg (by omega), if_neg (by omega), if_neg (by omega), if_neg (by omega), if_neg (by omega), if_pos hk]; rfl
theorem endsN_8 {l : List NodeV} {b : List UInt8} (he : errF 0 l = 0) {i f : Nat} (hi : i < l.length) (hk : l[i].kind = 8) : endsN l b i f = timesB b.length (endsN l b l[i].l.toNat) l[i].mn l[i].mx (oneB b.length f) := by
  unfold endsN; rw [treeA_eq he hi]; unfold mkT; rw [if_neg (by omega), if_neg (by omega), if_neg (by omega), if_neg (by omega), if_neg (by omega), if_neg (by omega), if_neg (by omega)]; rfl
/-- A row that is filled from the front: what is done, then what was there. -/
def filL (z : List Bool) (j : Nat) : List Bool := z.take j ++ List.replicate (z.length - j) false
theorem fil_0 (z : List Bool) : filL z 0 = List.replicate z.length false := by unfold filL; simp
theorem fil_all (z : List Bool) : filL z z.length = z := by unfold filL; simp
theorem fil_set {z : List Bool} {j : Nat} (hj : j < z.length) {x : Bool} (hx : z[j] = x) : ((filL z j).map boolV).set j (.bool x) = (filL z (j + 1)).map boolV := by
  have hl : (z.take j).length = j := by rw [List.length_take]; omega
  obtain ⟨m, hm⟩ : ∃ m, z.length - j = m + 1 := ⟨z.length - j - 1, by omega⟩
  have : (filL z j).set j x = filL z (j + 1) := by
    unfold filL
    rw [List.set_append_right _ _ (by omega), hl, Nat.sub_self, hm, List.replicate_succ, List.set_cons_zero, List.take_add_one, List.getElem?_eq_getElem hj, hx, show z.length - (j + 1) = m by omega]
    simp
  rw [← this, List.map_set]; rfl
theorem fil_low {e : List Bool} {f : Nat} (hf : f ≤ e.length) : filL (e.mapIdx fun j p => decide (f ≤ j) && !p) f = List.replicate e.length false := by
  apply List.ext_getElem?
  intro j
  unfold filL
  rw [List.length_mapIdx]
  rcases Nat.lt_or_ge j f with h | h
  · rw [List.getElem?_append_left (by rw [List.length_take, List.length_mapIdx]; omega), List.getElem?_take_of_lt h, List.getElem?_mapIdx, List.getElem?_eq_getElem (by omega), List.getElem?_replicate, if_pos (by omega)]
    simp; omega
  · rw [List.getElem?_append_right (by rw [List.length_take, List.length_mapIdx]; omega), List.length_take, List.length_mapIdx, Nat.min_eq_left hf, List.getElem?_replicate, List.getElem?_replicate]
    by_cases h2 : j < e.length
    · rw [if_pos (by omega), if_pos h2]
    · rw [if_neg (by omega), if_neg h2]
theorem one_set (n f : Nat) : (List.map boolV (List.replicate (n + 1) false)).set f (.bool true) = List.map boolV (oneB n f) := by unfold oneB; rw [List.map_set]; rfl
theorem bools_of {G : Ghost} {v : Value} {n : Nat} {s : List Bool} (h : Sl G v 1 n (s.map boolV)) (hn : n = s.length) : Bools G v s := by subst hn; exact h
theorem rep_ord {n : NodeV} {i : Int} (h : nodeE n i = 0) (hk : n.kind = 8) : n.mx < 0 ∨ n.mn ≤ n.mx := by
  unfold nodeE at h
  split at h
  · cases h
  · split at h
    · cases h
    · split at h
      · cases h
      · split at h
        · contradiction
        · split at h
          · cases h
          · split at h
            · cases h
            · split at h
              · cases h
              · omega
theorem one_row (n f : Nat) : (List.replicate (n + 1) (Value.bool false)).set f (.bool true) = List.map boolV (oneB n f) := by
  rw [← one_set, List.map_replicate]; rfl
end Go.Proofs.YtkmgbcjfidpmgaaGreatDoor
