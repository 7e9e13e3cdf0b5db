/- Package regex: the text of an expression, node by node. -/
import Derived.Test.YtkmgbcjfidpmgaaGreatDoorRuns
namespace Go.Proofs.YtkmgbcjfidpmgaaGreatDoor
open Go Go.Ex

def strV (s : List UInt8) : Value := .string ⟨s.toArray⟩
def kindAt (l : List NodeV) (i : Nat) : Int := (l.getD i (leafN 0 [])).kind
def wrapF (l : List NodeV) (T : List (List UInt8)) (ks : List Int) (i : Nat) : List UInt8 := if ks.contains (kindAt l i) = true then 40 :: (T.getD i [] ++ [41]) else T.getD i []
/-- The text of a node, of the texts ahead of it. -/
def nodeT (l : List NodeV) (T : List (List UInt8)) (n : NodeV) : List UInt8 :=
  if n.kind = 1 then [33] else if n.kind = 2 then [40, 41] else if n.kind = 3 then classT (bytesF n.c)
  else if n.kind = 4 then wrapF l T [5, 6] n.l.toNat ++ wrapF l T [4, 5, 6] n.r.toNat
  else if n.kind = 5 then T.getD n.l.toNat [] ++ [124] ++ wrapF l T [5] n.r.toNat
  else if n.kind = 6 then wrapF l T [5] n.l.toNat ++ [38] ++ wrapF l T [5, 6] n.r.toNat
  else if n.kind = 7 then [126] ++ wrapF l T [4, 5, 6] n.l.toNat
  else wrapF l T [4, 5, 6, 7] n.l.toNat ++ sufT n.mn n.mx
def textsF (l : List NodeV) (m : Nat) : List (List UInt8) := (l.take m).foldl (fun T n => T ++ [nodeT l T n]) []
theorem textsF_len (l : List NodeV) : ∀ m, m ≤ l.length → (textsF l m).length = m
  | 0, _ => rfl
  | m + 1, h => by
    have ih := textsF_len l m (by omega)
    unfold textsF at ih ⊢
    rw [foldl_take_succ _ _ _ _ (by omega), List.length_append, ih]; rfl
theorem textsF_succ (l : List NodeV) (m : Nat) (h : m < l.length) : textsF l (m + 1) = textsF l m ++ [nodeT l (textsF l m) l[m]] := by
  unfold textsF; rw [foldl_take_succ _ _ _ _ h]
def formatF (l : List NodeV) : List UInt8 × Int :=
  if validF l = 0 then (if 4000 < ((textsF l l.length).getD (l.length - 1) []).length then ([], 2) else ((textsF l l.length).getD (l.length - 1) [], 0)) else ([], validF l)
/-- The row of texts while it is being filled. -/
def padT (n : Nat) (T : List (List UInt8)) : List (List UInt8) := T ++ List.replicate (n - T.length) []
theorem padT_set {n : Nat} {T : List (List UInt8)} (h : T.length < n) (s : List UInt8) : (padT n T).set T.length s = padT n (T ++ [s]) := by
  unfold padT
  obtain ⟨k, hk⟩ : ∃ k, n - T.length = k + 1 := ⟨n - T.length - 1, by omega⟩
  rw [List.set_append_right _ _ (Nat.le_refl _), Nat.sub_self, hk, List.replicate_succ, List.set_cons_zero, List.length_append, List.length_singleton, show n - (T.length + 1) = k by omega, List.append_assoc]; rfl
theorem padT_at {n i : Nat} {T : List (List UInt8)} (h : i < T.length) : (padT n T)[i]? = some (T.getD i []) := by
  unfold padT; rw [List.getElem?_append_left h, List.getD_eq_getElem?_getD, List.getElem?_eq_getElem h]; rfl
theorem padT_len {n : Nat} {T : List (List UInt8)} (h : T.length ≤ n) : (padT n T).length = n := by
  unfold padT; rw [List.length_append, List.length_replicate]; omega

/-! ### how long the texts are -/
/-- The bytes of those texts that no node has used yet. -/
def pot : List (List UInt8) → List Nat → Nat
  | t :: T, c :: cs => (if c = 0 then t.length else 0) + pot T cs
  | _, _ => 0
theorem pot_at : ∀ (T : List (List UInt8)) (cs : List Nat) (i : Nat), i < T.length → cs[i]? = some 0 → (T.getD i []).length + pot T (cs.modify i (· + 1)) = pot T cs
  | [], _, _, h, _ => by simp at h
  | _ :: _, [], _, _, h => by simp at h
  | t :: T, c :: cs, 0, _, h => by
    obtain rfl : c = 0 := by simpa using h
    simp [pot]
  | t :: T, c :: cs, i + 1, h, h2 => by
    have ih := pot_at T cs i (by simpa using h) (by simpa using h2)
    simp only [List.getD_cons_succ, List.modify_succ_cons, pot]
    omega
theorem pot_app : ∀ (T : List (List UInt8)) (cs : List Nat) (s : List UInt8), pot (T ++ [s]) cs ≤ pot T cs + s.length
  | [], [], s => by simp [pot]
  | [], c :: cs, s => by
    simp only [List.nil_append, pot]
    split <;> simp
  | _ :: _, [], s => by simp [pot]
  | t :: T, c :: cs, s => by
    have := pot_app T cs s
    simp only [List.cons_append, pot]; omega
theorem pot_nil (cs : List Nat) : pot [] cs = 0 := by cases cs <;> rfl
theorem step_ge (cs : List Nat) (n : NodeV) (i : Nat) : cs.getD i 0 ≤ (stepC cs n).getD i 0 := by
  have h : ∀ (cs : List Nat) (j : Nat), cs.getD i 0 ≤ (cs.modify j (· + 1)).getD i 0 := fun cs j => by
    rw [List.getD_eq_getElem?_getD, List.getD_eq_getElem?_getD, List.getElem?_modify]
    cases cs[i]? with
    | none => simp
    | some x => by_cases hji : j = i <;> simp [hji]
  unfold stepC; split
  · exact Nat.le_trans (h _ _) (h _ _)
  · split
    · exact h _ _
    · exact Nat.le_refl _
theorem fold_ge : ∀ (l : List NodeV) (cs : List Nat) (i : Nat), cs.getD i 0 ≤ (l.foldl stepC cs).getD i 0
  | [], _, _ => Nat.le_refl _
  | n :: t, cs, i => Nat.le_trans (step_ge cs n i) (fold_ge t (stepC cs n) i)
def cntK (l : List NodeV) (k : Nat) : List Nat := (l.take k).foldl stepC (List.replicate l.length 0)
theorem cntK_succ (l : List NodeV) (k : Nat) (h : k < l.length) : cntK l (k + 1) = stepC (cntK l k) l[k] := by unfold cntK; rw [foldl_take_succ _ _ _ _ h]
theorem cntK_len (l : List NodeV) : ∀ k, k ≤ l.length → (cntK l k).length = l.length
  | 0, _ => by simp [cntK]
  | k + 1, h => by rw [cntK_succ l k (by omega), stepC_len]; exact cntK_len l k (by omega)
theorem cntK_ge (l : List NodeV) (k : Nat) (h : k ≤ l.length) (i : Nat) : (cntK l k).getD i 0 ≤ (cntF l).getD i 0 := by
  have : cntF l = (l.drop k).foldl stepC (cntK l k) := by unfold cntF cntK; rw [← List.foldl_append, List.take_append_drop]
  rw [this]; exact fold_ge _ _ _
theorem ones_of {l : List NodeV} (h : validF l = 0) : l.length ≤ 200 ∧ 0 < l.length ∧ errF 0 l = 0 ∧ ∀ i, i < l.length - 1 → (cntF l).getD i 0 = 1 := by
  unfold validF at h
  split at h
  · cases h
  · split at h
    · cases h
    · split at h
      · split at h
        · rename_i h1 h2 h3 h4
          refine ⟨by omega, by omega, h3, fun i hi => ?_⟩
          have hl : (cntF l).length = l.length := by have := cntK_len l l.length (Nat.le_refl _); unfold cntK at this; rwa [List.take_length] at this
          unfold onesF at h4
          rw [List.all_eq_true] at h4
          have := h4 ((cntF l)[i]'(by omega)) (List.mem_of_getElem? (i := i) (by rw [List.getElem?_take_of_lt hi, List.getElem?_eq_getElem (by omega)]))
          rw [List.getD_eq_getElem?_getD, List.getElem?_eq_getElem (by omega)]
          simpa using this
        · cases h
      · contradiction
theorem err_at {l : List NodeV} : ∀ (i : Nat), errF i (l.drop i) = 0 → ∀ k (h : k < l.length), i ≤ k → nodeE l[k] k = 0 := by
  have key : ∀ (t : List NodeV) (i : Nat), errF i t = 0 → ∀ j (h : j < t.length), nodeE t[j] ((i + j : Nat) : Int) = 0 := by
    intro t
    induction t with
    | nil => intro i _ j h; simp at h
    | cons n t ih =>
      intro i he j h
      rw [errF] at he
      split at he
      · rename_i h0
        cases j with
        | zero => exact h0
        | succ j => have := ih (i + 1) he j (by simpa using h); rw [show i + (j + 1) = i + 1 + j by omega]; exact this
      · contradiction
  intro i he k h hik
  have := key (l.drop i) i he (k - i) (by rw [List.length_drop]; omega)
  rw [List.getElem_drop] at this
  have e : i + (k - i) = k := by omega
  simp only [e] at this
  exact this
theorem mod_get {cs : List Nat} {i j : Nat} (h : j < cs.length) : (cs.modify i (· + 1)).getD j 0 = if i = j then cs.getD j 0 + 1 else cs.getD j 0 := by
  rw [List.getD_eq_getElem?_getD, List.getD_eq_getElem?_getD, List.getElem?_modify, List.getElem?_eq_getElem h]
  by_cases hij : i = j <;> simp [hij]
theorem getD_some0 {cs : List Nat} {i : Nat} (h : i < cs.length) (h0 : cs.getD i 0 = 0) : cs[i]? = some 0 := by
  rw [List.getD_eq_getElem?_getD, List.getElem?_eq_getElem h] at h0
  rw [List.getElem?_eq_getElem h]; simpa using h0
theorem wrap_len (l : List NodeV) (T : List (List UInt8)) (ks : List Int) (i : Nat) : (wrapF l T ks i).length ≤ (T.getD i []).length + 2 := by
  unfold wrapF; split
  · simp
  · omega
theorem digT_len' (n : Nat) : (digT n).length ≤ 2 := by unfold digT; split <;> simp
theorem sufT_len (a b : Int) : (sufT a b).length ≤ 10 := by
  have h1 := digT_len' a.toNat
  have h2 := digT_len' b.toNat
  unfold sufT
  repeat' split
  all_goals simp
  all_goals omega
theorem classT_len {c : List Nat} (h : ClsOk c) : (classT (bytesF c)).length ≤ 2400 := by
  have h1 := bytesF_len h.1 h.2
  have h2 := runsT_len (bytesF c).length (bytesF c)
  have h3 := charT_len ((bytesF c).headD 0)
  unfold classT
  split
  · omega
  · split
    · simp
    · simp only [List.length_cons, List.length_append, List.length_nil]; omega
theorem nodeT_len {l : List NodeV} {T : List (List UInt8)} {n : NodeV} (hc : ClsOk n.c) (hk : 1 ≤ n.kind ∧ n.kind ≤ 8) : (nodeT l T n).length ≤ (if 0 < arF n.kind then (T.getD n.l.toNat []).length else 0) + (if 1 < arF n.kind then (T.getD n.r.toNat []).length else 0) + 2400 := by
  have hw := fun ks => wrap_len l T ks n.l.toNat
  have hv := fun ks => wrap_len l T ks n.r.toNat
  have h1 := hw [5]; have h2 := hw [5, 6]; have h3 := hw [4, 5, 6]; have h4 := hw [4, 5, 6, 7]
  have g1 := hv [5]; have g2 := hv [5, 6]; have g3 := hv [4, 5, 6]
  have hs := sufT_len n.mn n.mx
  have hcl := classT_len hc
  by_cases k2 : n.kind = 4 ∨ n.kind = 5 ∨ n.kind = 6
  · rw [arF_2 k2, if_pos (by omega), if_pos (by omega)]
    unfold nodeT
    rw [if_neg (by omega), if_neg (by omega), if_neg (by omega)]
    repeat' split
    all_goals simp only [List.length_append, List.length_cons, List.length_nil]
    all_goals omega
  · by_cases k1 : n.kind = 7 ∨ n.kind = 8
    · rw [arF_1 k1, if_pos (by omega), if_neg (by omega)]
      unfold nodeT
      rw [if_neg (by omega), if_neg (by omega), if_neg (by omega), if_neg (by omega), if_neg (by omega), if_neg (by omega)]
      split
      all_goals simp only [List.length_append, List.length_cons, List.length_nil]
      all_goals omega
    · have k3 : n.kind = 1 ∨ n.kind = 2 ∨ n.kind = 3 := by omega
      unfold nodeT
      repeat' split
      all_goals try simp only [List.length_append, List.length_cons, List.length_nil]
      all_goals omega
theorem nodeE_kind {n : NodeV} {i : Int} (h : nodeE n i = 0) : 1 ≤ n.kind ∧ n.kind ≤ 8 := by
  unfold nodeE at h
  split at h
  · cases h
  · omega
/-- A node's operands are used here for the first time. -/
theorem first_use {l : List NodeV} (hv : validF l = 0) {k : Nat} (hk : k < l.length) : (0 < arF l[k].kind → (cntK l k)[l[k].l.toNat]? = some 0 ∧ l[k].l.toNat < k) ∧ (1 < arF l[k].kind → ((cntK l k).modify l[k].l.toNat (· + 1))[l[k].r.toNat]? = some 0 ∧ l[k].r.toNat < k) := by
  obtain ⟨h200, hpos, herr, hone⟩ := ones_of hv
  have hne := err_at (l := l) 0 herr k hk (Nat.zero_le _)
  have hop := nodeE_ops hne
  have hcl := cntK_len l k (by omega)
  have hge := fun i => cntK_ge l (k + 1) (by omega) i
  rw [cntK_succ l k hk] at hge
  refine ⟨fun ha => ?_, fun ha => ?_⟩
  · obtain ⟨h1, h2⟩ := ops_l hop ha
    have hlt : l[k].l.toNat < k := by omega
    refine ⟨getD_some0 (by omega) ?_, hlt⟩
    have h3 := hge l[k].l.toNat
    rw [hone _ (by omega)] at h3
    have h4 : (cntK l k).getD l[k].l.toNat 0 + 1 ≤ (stepC (cntK l k) l[k]).getD l[k].l.toNat 0 := by
      have h5 : ((cntK l k).modify l[k].l.toNat (· + 1)).getD l[k].l.toNat 0 = (cntK l k).getD l[k].l.toNat 0 + 1 := by rw [mod_get (by omega), if_pos rfl]
      unfold stepC
      split
      · rw [mod_get (by rw [List.length_modify]; omega), h5]; split <;> omega
      · rw [h5]; exact Nat.le_refl _
    omega
  · obtain ⟨h1, h2⟩ := ops_r hop ha
    have hlt : l[k].r.toNat < k := by omega
    refine ⟨getD_some0 (by rw [List.length_modify]; omega) ?_, hlt⟩
    have h3 := hge l[k].r.toNat
    rw [hone _ (by omega)] at h3
    have h4 : ((cntK l k).modify l[k].l.toNat (· + 1)).getD l[k].r.toNat 0 + 1 ≤ (stepC (cntK l k) l[k]).getD l[k].r.toNat 0 := by
      have h5 := mod_get (cs := (cntK l k).modify l[k].l.toNat (· + 1)) (i := l[k].r.toNat) (j := l[k].r.toNat) (by rw [List.length_modify]; omega)
      rw [if_pos rfl] at h5
      unfold stepC
      rw [if_pos ha, h5]; exact Nat.le_refl _
    omega
theorem pot_bound {l : List NodeV} (hv : validF l = 0) (hcls : ∀ n ∈ l, ClsOk n.c) : ∀ k, k ≤ l.length → pot (textsF l k) (cntK l k) ≤ 2400 * k
  | 0, _ => by rw [show textsF l 0 = [] from rfl, pot_nil]; exact Nat.zero_le _
  | k + 1, h => by
    have ih := pot_bound hv hcls k (by omega)
    obtain ⟨_, _, herr, _⟩ := ones_of hv
    obtain ⟨fl, fr⟩ := first_use hv (show k < l.length by omega)
    have hk := nodeE_kind (err_at (l := l) 0 herr k (by omega) (Nat.zero_le _))
    have hT := textsF_len l k (by omega)
    have hn := nodeT_len (l := l) (T := textsF l k) (hcls l[k] (List.getElem_mem _)) hk
    rw [textsF_succ l k (by omega), cntK_succ l k (by omega)]
    refine Nat.le_trans (pot_app _ _ _) ?_
    unfold stepC
    by_cases a2 : 1 < arF l[k].kind
    · obtain ⟨f1, f2⟩ := fl (by omega)
      obtain ⟨f3, f4⟩ := fr a2
      have p1 := pot_at (textsF l k) (cntK l k) _ (by omega) f1
      have p2 := pot_at (textsF l k) ((cntK l k).modify l[k].l.toNat (· + 1)) _ (by omega) f3
      rw [if_pos a2]
      rw [if_pos (by omega), if_pos a2] at hn
      omega
    · rw [if_neg a2]
      by_cases a1 : 0 < arF l[k].kind
      · obtain ⟨f1, f2⟩ := fl a1
        have p1 := pot_at (textsF l k) (cntK l k) _ (by omega) f1
        rw [if_pos a1]
        rw [if_pos a1, if_neg a2] at hn
        omega
      · rw [if_neg a1]
        rw [if_neg a1, if_neg a2] at hn
        omega
theorem fmt_bound {l : List NodeV} (hv : validF l = 0) (hcls : ∀ n ∈ l, ClsOk n.c) {k : Nat} (hk : k < l.length) :
    (0 < arF l[k].kind → ((textsF l k).getD l[k].l.toNat []).length ≤ 480000) ∧ (1 < arF l[k].kind → ((textsF l k).getD l[k].r.toNat []).length ≤ 480000) := by
  obtain ⟨h200, _, _, _⟩ := ones_of hv
  have hp := pot_bound hv hcls k (by omega)
  have hT := textsF_len l k (by omega)
  obtain ⟨fl, fr⟩ := first_use hv hk
  refine ⟨fun ha => ?_, fun ha => ?_⟩
  · obtain ⟨f1, f2⟩ := fl ha
    have p1 := pot_at (textsF l k) (cntK l k) _ (by omega) f1
    omega
  · obtain ⟨f1, f2⟩ := fl (by omega)
    obtain ⟨f3, f4⟩ := fr ha
    have p1 := pot_at (textsF l k) (cntK l k) _ (by omega) f1
    have p2 := pot_at (textsF l k) ((cntK l k).modify l[k].l.toNat (· + 1)) _ (by omega) f3
    omega
theorem rep_rng {n : NodeV} {i : Int} (h : nodeE n i = 0) (hk : n.kind = 8) : 0 ≤ n.mn ∧ n.mn ≤ 16 ∧ -1 ≤ n.mx ∧ n.mx ≤ 16 := by
  unfold nodeE at h
  split at h
  · cases h
  · split at h
    · cases h
    · split at h
      · cases h
      · split at h
        · contradiction
        · split at h
          · cases h
          · split at h
            · cases h
            · omega
theorem row_step {l : List NodeV} {k : Nat} (h : k < l.length) : ((padT l.length (textsF l k)).map strV).set k (strV (nodeT l (textsF l k) l[k])) = (padT l.length (textsF l (k + 1))).map strV := by
  have hT := textsF_len l k (by omega)
  rw [← List.map_set]
  have := padT_set (n := l.length) (T := textsF l k) (by omega) (nodeT l (textsF l k) l[k])
  rw [hT] at this
  rw [this, textsF_succ l k h]
theorem ks_not {ks : List Int} {k : Int} (h : ∀ i (hi : i < ks.length), ¬ k = ks[i]) : ks.contains k = false := by
  rw [Bool.eq_false_iff]
  intro hc
  rw [List.contains_iff_mem] at hc
  obtain ⟨i, hi, he⟩ := List.getElem_of_mem hc
  exact h i hi he.symm
theorem ks_yes {ks : List Int} {k : Int} {i : Nat} (hi : i < ks.length) (h : k = ks[i]) : ks.contains k = true := by
  rw [List.contains_iff_mem, h]; exact List.getElem_mem hi
theorem rx_cls {G : Ghost} {v : Value} {l : List NodeV} (hx : Rx G v l) : ∀ n ∈ l, ClsOk n.c := by
  obtain ⟨cs, _, h2, _⟩ := hx
  intro n hn
  obtain ⟨i, hi, rfl⟩ := List.getElem_of_mem hn
  obtain ⟨c, _, hR⟩ := All2.get i h2 hi
  exact hR.2
theorem kindAt_get {l : List NodeV} {i : Nat} (h : i < l.length) : kindAt l i = l[i].kind := by unfold kindAt; rw [List.getD_eq_getElem?_getD, List.getElem?_eq_getElem h]; rfl
end Go.Proofs.YtkmgbcjfidpmgaaGreatDoor
