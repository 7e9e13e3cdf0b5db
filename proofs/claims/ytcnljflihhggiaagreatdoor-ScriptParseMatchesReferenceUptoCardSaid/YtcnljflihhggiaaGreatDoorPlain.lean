/- Package script: the laws in plain words: what is written is read again, and what is read was written so. -/
import Derived.Test.YtcnljflihhggiaaGreatDoorModel
namespace Go.Proofs.YtcnljflihhggiaaGreatDoor
open Go Go.Ex

/-! ### decimal numbers -/
def valL (w : List UInt8) : Nat := w.foldl (fun n b => 10 * n + (b.toNat - 48)) 0
theorem valL_snoc (t : List UInt8) (x : UInt8) : valL (t ++ [x]) = 10 * valL t + (x.toNat - 48) := by unfold valL; rw [List.foldl_append]; rfl
theorem numL_snoc (t : List UInt8) (x : UInt8) : numL (t ++ [x]) = min (10 * numL t + (x.toNat - 48)) 1048577 := by unfold numL; rw [List.foldl_append]; rfl
theorem snoc_ind {p : List UInt8 → Prop} (h0 : p []) (h1 : ∀ t x, p t → p (t ++ [x])) (w : List UInt8) : p w := by
  have key : ∀ n (w : List UInt8), w.length = n → p w := by
    intro n
    induction n with
    | zero => intro w hw; obtain rfl := List.length_eq_zero_iff.1 hw; exact h0
    | succ n ih =>
      intro w hw
      rcases List.eq_nil_or_concat w with rfl | ⟨t, x, rfl⟩
      · simp at hw
      · rw [List.concat_eq_append] at hw ⊢
        exact h1 t x (ih t (by simpa using hw))
  exact key _ w rfl
theorem numL_min (w : List UInt8) : numL w = min (valL w) 1048577 := by
  refine snoc_ind (p := fun w => numL w = min (valL w) 1048577) rfl (fun t x ih => ?_) w
  rw [numL_snoc, valL_snoc, ih]; omega
theorem dec_small {n : Nat} (h : n < 10) : Lib.decDigits n = [UInt8.ofNat (48 + n)] := by rw [Lib.decDigits, dif_pos h]
theorem dec_big {n : Nat} (h : ¬ n < 10) : Lib.decDigits n = Lib.decDigits (n / 10) ++ [UInt8.ofNat (48 + n % 10)] := by rw [Lib.decDigits, dif_neg h]
theorem dec_val (n : Nat) : valL (Lib.decDigits n) = n := by
  induction n using Nat.strongRecOn with
  | ind n ih =>
    by_cases h : n < 10
    · rw [dec_small h]
      show 10 * 0 + ((UInt8.ofNat (48 + n)).toNat - 48) = n
      rw [UInt8.toNat_ofNat']; omega
    · rw [dec_big h, valL_snoc, ih (n / 10) (by omega), UInt8.toNat_ofNat']; omega
theorem dec_ne (n : Nat) : Lib.decDigits n ≠ [] := by
  by_cases h : n < 10
  · rw [dec_small h]; simp
  · rw [dec_big h]; simp
theorem dig_of {n : Nat} (h : n < 10) : isDig (UInt8.ofNat (48 + n)) = true := by
  unfold isDig; rw [UInt8.toNat_ofNat']; simp; omega
theorem dec_dig (n : Nat) : ∀ x ∈ Lib.decDigits n, isDig x = true := by
  induction n using Nat.strongRecOn with
  | ind n ih =>
    by_cases h : n < 10
    · rw [dec_small h]; intro x hx; obtain rfl := List.mem_singleton.1 hx; exact dig_of h
    · rw [dec_big h]; intro x hx
      rcases List.mem_append.1 hx with h1 | h1
      · exact ih _ (by omega) x h1
      · obtain rfl := List.mem_singleton.1 h1; exact dig_of (by omega)
theorem dec_head (n : Nat) (h0 : 0 < n) : (Lib.decDigits n).getD 0 0 ≠ 48 := by
  induction n using Nat.strongRecOn with
  | ind n ih =>
    by_cases h : n < 10
    · rw [dec_small h]; show UInt8.ofNat (48 + n) ≠ 48
      intro he
      have := congrArg UInt8.toNat he
      rw [UInt8.toNat_ofNat'] at this
      have h48 : (48 : UInt8).toNat = 48 := rfl
      omega
    · rw [dec_big h]
      have := ih (n / 10) (by omega) (by omega)
      have hne := dec_ne (n / 10)
      cases hd : Lib.decDigits (n / 10) with
      | nil => exact absurd hd hne
      | cons x t => rw [hd] at this; simpa using this
theorem dec_bad (n i : Nat) (hi : i < (Lib.decDigits n).length) : badN (Lib.decDigits n) i = false := by
  unfold badN
  rw [bad_get hi, dec_dig n _ (List.getElem_mem hi)]
  by_cases h1 : i = 1
  · have h0 : ¬ n < 10 := fun h => by rw [dec_small h] at hi; simp at hi; omega
    rw [decide_eq_false (dec_head n (by omega))]; simp
  · simp [h1]
theorem dec_num {n : Nat} (h : n ≤ 1048576) (p q : Nat) : numV (Lib.decDigits n) p q = .ok (n, q) := by
  have hm : numL (Lib.decDigits n) = n := by rw [numL_min, dec_val]; omega
  rw [numV_ok (dec_bad n) (by rw [hm]; exact h), hm]
theorem dig_back {x : UInt8} (h : isDig x = true) : UInt8.ofNat (48 + (x.toNat - 48)) = x ∧ x.toNat - 48 < 10 := by
  unfold isDig at h
  simp only [Bool.and_eq_true, decide_eq_true_eq] at h
  refine ⟨?_, by omega⟩
  rw [show 48 + (x.toNat - 48) = x.toNat by omega]; simp
theorem dec_back (w : List UInt8) : w ≠ [] → (∀ x ∈ w, isDig x = true) → w.getD 0 0 ≠ 48 → Lib.decDigits (valL w) = w := by
  refine snoc_ind (p := fun w => w ≠ [] → (∀ x ∈ w, isDig x = true) → w.getD 0 0 ≠ 48 → Lib.decDigits (valL w) = w) (fun h => absurd rfl h) (fun t x ih _ hd hh => ?_) w
  obtain ⟨hx, hx9⟩ := dig_back (hd x (by simp))
  rw [valL_snoc]
  by_cases ht : t = []
  · subst ht
    show Lib.decDigits (10 * 0 + (x.toNat - 48)) = [x]
    rw [Nat.mul_zero, Nat.zero_add, dec_small hx9, hx]
  · have hh2 : t.getD 0 0 ≠ 48 := by
      cases t with
      | nil => exact absurd rfl ht
      | cons y t => simpa using hh
    have ih := ih ht (fun y hy => hd y (by simp [hy])) hh2
    have hv : valL t ≠ 0 := by
      intro h0
      rw [h0, dec_small (by decide)] at ih
      rw [← ih] at hh2
      exact hh2 (by decide)
    rw [dec_big (by omega), show (10 * valL t + (x.toNat - 48)) / 10 = valL t by omega, show (10 * valL t + (x.toNat - 48)) % 10 = x.toNat - 48 by omega, ih, hx]
theorem badW_inv {w : List UInt8} (h : ¬ badW w = true) : ∀ i, i < w.length → badN w i = false := by
  intro i hi
  cases hb : badN w i with
  | false => rfl
  | true =>
    exact absurd (by unfold badW; rw [List.any_eq_true]; exact ⟨i, List.mem_range.2 hi, hb⟩) h
theorem num_inv {w : List UInt8} {p q n q2 : Nat} (hw : w ≠ []) (h : numV w p q = .ok (n, q2)) : w = Lib.decDigits n ∧ n ≤ 1048576 ∧ q2 = q := by
  unfold numV at h
  split at h
  · cases h
  · rename_i hb
    split at h
    · cases h
    · rename_i hl
      cases h
      refine ⟨?_, by omega, rfl⟩
      have hm := numL_min w
      rw [show numL w = valL w by omega]
      have hb := badW_inv hb
      have hd : ∀ x ∈ w, isDig x = true := fun x hx => by
        obtain ⟨i, hi, rfl⟩ := List.getElem_of_mem hx
        have := hb i hi
        unfold badN at this
        rw [bad_get hi] at this
        cases hd : isDig w[i] with
        | true => rfl
        | false => rw [hd] at this; simp at this
      match w, hw with
      | [x], _ =>
        obtain ⟨h1, h2⟩ := dig_back (hd x (by simp))
        show [x] = Lib.decDigits (10 * 0 + (x.toNat - 48))
        rw [Nat.mul_zero, Nat.zero_add, dec_small h2, h1]
      | x :: y :: t, _ =>
        refine (dec_back _ (by simp) hd ?_).symm
        have := hb 1 (by simp)
        unfold badN at this
        simp at this
        simpa using this.2

/-! ### bytes as digits -/
theorem hexV_D : ∀ n : Fin 16, hexV (hexD n.val) = some n.val := by decide +kernel
theorem hex_join (x : UInt8) : UInt8.ofNat (16 * (x.toNat / 16) + x.toNat % 16) = x := by
  rw [show 16 * (x.toNat / 16) + x.toNat % 16 = x.toNat by omega]; simp
theorem hexL_P : ∀ b : List UInt8, hexL (hexP b) = some b
  | [] => rfl
  | x :: t => by
    have hx := x.toNat_lt
    have ih := hexL_P t
    show hexL (hexD (x.toNat / 16) :: hexD (x.toNat % 16) :: hexP t) = _
    unfold hexL
    rw [hexV_D ⟨x.toNat / 16, by omega⟩, hexV_D ⟨x.toNat % 16, by omega⟩, ih]
    show some (UInt8.ofNat (16 * (x.toNat / 16) + x.toNat % 16) :: t) = _
    rw [hex_join]
theorem hexD_V : ∀ x : UInt8, ∀ n, hexV x = some n → hexD n = x := by
  refine u8_all fun m n h => ?_
  have key : ∀ m : Fin 256, (match hexV (UInt8.ofNat m.val) with | some n => decide (hexD n = UInt8.ofNat m.val) | none => true) = true := by decide +kernel
  have := key m
  rw [h] at this
  simpa using this
theorem hexL_inv : ∀ (w l : List UInt8), hexL w = some l → hexP l = w
  | [], l, h => by obtain rfl : [] = l := by simpa [hexL] using h
                   rfl
  | [_], l, h => by simp [hexL] at h
  | x :: y :: t, l, h => by
    unfold hexL at h
    cases hx : hexV x <;> cases hy : hexV y <;> simp only [hx, hy] at h <;> try cases h
    rename_i a b
    cases ht : hexL t with
    | none => rw [ht] at h; cases h
    | some l' =>
      rw [ht] at h; cases h
      have h1 := hexV_le hx
      have h2 := hexV_le hy
      show hexD ((UInt8.ofNat (16 * a + b)).toNat / 16) :: hexD ((UInt8.ofNat (16 * a + b)).toNat % 16) :: hexP l' = _
      rw [UInt8.toNat_ofNat', show (16 * a + b) % 2 ^ 8 / 16 = a by omega, show (16 * a + b) % 2 ^ 8 % 16 = b by omega, hexD_V x a hx, hexD_V y b hy, hexL_inv t l' ht]
theorem hexD_word : ∀ n : Fin 16, wB (hexD n.val) = true := by decide +kernel
theorem hexT_word (b : List UInt8) : ∀ x ∈ hexT b, wB x = true := by
  intro x hx
  unfold hexT at hx
  split at hx
  · obtain rfl := List.mem_singleton.1 hx; decide
  · unfold hexP at hx
    rw [List.mem_flatMap] at hx
    obtain ⟨y, _, hy⟩ := hx
    have := y.toNat_lt
    simp only [List.mem_cons, List.not_mem_nil, or_false] at hy
    rcases hy with rfl | rfl
    · exact hexD_word ⟨y.toNat / 16, by omega⟩
    · exact hexD_word ⟨y.toNat % 16, by omega⟩
theorem hexT_ne (b : List UInt8) : hexT b ≠ [] := by
  unfold hexT; split
  · simp
  · rename_i h
    cases b with
    | nil => exact absurd rfl h
    | cons x t => simp [hexP]
theorem hex_word (b : List UInt8) (p q : Nat) : hexW (hexT b) p q = .ok (b, q) := by
  unfold hexW hexT
  by_cases h : b.length = 0
  · rw [if_pos h, if_pos rfl, List.length_eq_zero_iff.1 h]
  · rw [if_neg h, if_neg, hexL_P]
    intro he
    have := congrArg List.length he
    rw [hexP_len] at this
    simp at this; omega
theorem hex_inv {w b : List UInt8} {p q q2 : Nat} (hw : w ≠ []) (h : hexW w p q = .ok (b, q2)) : w = hexT b ∧ q2 = q := by
  unfold hexW at h
  split at h
  · rename_i h1; cases h; exact ⟨h1, rfl⟩
  · cases hl : hexL w with
    | none => rw [hl] at h; cases h
    | some l =>
      rw [hl] at h; cases h
      refine ⟨?_, rfl⟩
      have h1 := hexL_inv w b hl
      unfold hexT
      rw [if_neg, h1]
      intro h0
      rw [List.length_eq_zero_iff.1 h0] at h1
      exact hw h1.symm

/-! ### pieces that stand in the text -/
theorem at_cons {s : List UInt8} {p : Nat} {x : UInt8} {l : List UInt8} (h : s.drop p = x :: l) : ∃ hp : p < s.length, s[p] = x ∧ s.drop (p + 1) = l := by
  have hp : p < s.length := by
    rcases Nat.lt_or_ge p s.length with h' | h'
    · exact h'
    · rw [List.drop_eq_nil_of_le h'] at h; cases h
  rw [List.drop_eq_getElem_cons hp] at h
  injection h with h1 h2
  exact ⟨hp, h1, h2⟩
theorem adv {s t rest : List UInt8} {p : Nat} (h : s.drop p = t ++ rest) : s.drop (p + t.length) = rest := by
  rw [← List.drop_drop, h, List.drop_left]
theorem exp_at {s : List UInt8} {p : Nat} {x : UInt8} {l : List UInt8} (h : s.drop p = x :: l) : expP s p x = .ok (p + 1) := by
  obtain ⟨hp, h1, _⟩ := at_cons h
  exact exp_ok hp h1
theorem wL_at {s w : List UInt8} {p : Nat} {x : UInt8} {l : List UInt8} (h : s.drop p = w ++ x :: l) (hw : ∀ y ∈ w, wB y = true) (hx : wB x = false) : wL s p = w := by
  unfold wL
  rw [h, List.takeWhile_append_of_pos hw, List.takeWhile_cons, hx]; simp
theorem word_at {s w : List UInt8} {p : Nat} {x : UInt8} {l : List UInt8} (h : s.drop p = w ++ x :: l) (hw : ∀ y ∈ w, wB y = true) (hx : wB x = false) (h0 : w ≠ []) : wordP s p = .ok (w, p + w.length) := by
  have hp : p < s.length := by
    rcases Nat.lt_or_ge p s.length with h' | h'
    · exact h'
    · rw [List.drop_eq_nil_of_le h'] at h; cases w <;> cases h
  have he := wL_at h hw hx
  rw [word_ok hp (by rw [he]; exact fun h => h0 (List.length_eq_zero_iff.1 h)), he]
theorem dig_all : ∀ x : UInt8, isDig x = true → wB x = true := u8_all (by decide +kernel)
theorem dig_word {x : UInt8} (h : isDig x = true) : wB x = true := dig_all x h
theorem num_at {s : List UInt8} {p n : Nat} {x : UInt8} {l : List UInt8} (h : s.drop p = 32 :: (Lib.decDigits n ++ x :: l)) (hx : wB x = false) (hn : n ≤ 1048576) : numP s p = .ok (n, p + (1 + (Lib.decDigits n).length)) := by
  obtain ⟨_, _, h2⟩ := at_cons h
  rw [num_of (exp_at h) (word_at h2 (fun y hy => dig_word (dec_dig n y hy)) hx (dec_ne n)), dec_num hn, Nat.add_assoc]
theorem bytes_at {s b : List UInt8} {p : Nat} {x : UInt8} {l : List UInt8} (h : s.drop p = 32 :: (hexT b ++ x :: l)) (hx : wB x = false) : bytesP s p = .ok (b, p + (1 + (hexT b).length)) := by
  obtain ⟨_, _, h2⟩ := at_cons h
  rw [bytes_of (exp_at h) (word_at h2 (hexT_word b) hx (hexT_ne b)), hex_word, Nat.add_assoc]
/-- What follows in a line begins with a byte that ends a word. -/
def Ends (t : List UInt8) : Prop := ∃ x l, t = x :: l ∧ wB x = false
theorem Ends.opt {u : Bool} {t r : List UInt8} (h : Ends r) : Ends (optT u t ++ r) := by
  unfold optT
  cases u
  · exact h
  · exact ⟨32, _, rfl, by decide⟩
theorem a_at {s r : List UInt8} {p : Nat} {n : Int} {u : Bool} (h : s.drop p = optT u (numT n) ++ r) (hr : Ends r) (hn : 0 ≤ n ∧ n ≤ 1048576) (h0 : u = true ∨ n = 0) : aP s u p = .ok (n.toNat, p + (optT u (numT n)).length) := by
  obtain ⟨x, l, rfl, hx⟩ := hr
  unfold aP
  cases u with
  | false =>
    obtain rfl : n = 0 := by simpa using h0
    rw [if_neg (by simp)]; rfl
  | true =>
    rw [if_pos rfl]
    have := num_at (s := s) (p := p) (n := n.toNat) (x := x) (l := l) (by rw [h]; rfl) hx (by omega)
    rw [this]
    simp only [optT, if_true, numT, List.length_cons]
    rw [Nat.add_comm 1]
theorem b_at {s b r : List UInt8} {p : Nat} {u : Bool} (h : s.drop p = optT u (hexT b) ++ r) (hr : Ends r) (h0 : u = true ∨ b = []) : bP s u p = .ok (b, p + (optT u (hexT b)).length) := by
  obtain ⟨x, l, rfl, hx⟩ := hr
  unfold bP
  cases u with
  | false =>
    obtain rfl : b = [] := by simpa using h0
    rw [if_neg (by simp)]; rfl
  | true =>
    rw [if_pos rfl]
    have := bytes_at (s := s) (p := p) (b := b) (x := x) (l := l) (by rw [h]; rfl) hx
    rw [this]
    simp only [optT, if_true, List.length_cons]
    rw [Nat.add_comm 1]
theorem kw_word : ∀ k : Fin 10, ∀ y ∈ kwF k.val, wB y = true := by decide +kernel
theorem kw_ne : ∀ k : Fin 10, 1 ≤ k.val → kwF k.val ≠ [] := by decide +kernel
structure Wr (e : Ev) : Prop where
  k1 : 1 ≤ e.kind
  k9 : e.kind ≤ 9
  a : useA e.kind.toNat = true ∨ e.a = 0
  b : useB e.kind.toNat = true ∨ e.b = []
  c : useC e.kind.toNat = true ∨ e.c = 0
  la : 0 ≤ e.a ∧ e.a ≤ 1048576
  lc : 0 ≤ e.c ∧ e.c ≤ 1048576
theorem wr_iff (e : Ev) : wrE e = true ↔ Wr e := by
  unfold wrE fitE kindOk
  simp only [Bool.and_eq_true, Bool.or_eq_true, decide_eq_true_eq, List.length_eq_zero_iff]
  constructor
  · rintro ⟨⟨⟨h1, h2⟩, ⟨⟨h3, h4⟩, h5⟩⟩, ⟨h6, h7⟩, h8, h9⟩
    exact ⟨h1, h2, h3, h4, h5, ⟨h6, h7⟩, ⟨h8, h9⟩⟩
  · rintro ⟨h1, h2, h3, h4, h5, ⟨h6, h7⟩, ⟨h8, h9⟩⟩
    exact ⟨⟨⟨h1, h2⟩, ⟨⟨h3, h4⟩, h5⟩⟩, ⟨h6, h7⟩, h8, h9⟩
theorem event_line {s r : List UInt8} {p : Nat} {e : Ev} (hw : Wr e) (h : s.drop p = lineT e ++ r) : eventP s p = .ok (e, p + (lineT e).length) := by
  obtain ⟨kd, a, c, b⟩ := e
  obtain ⟨k1, k9, ha, hb, hc, la, lc⟩ := hw
  dsimp only at k1 k9 ha hb hc la lc
  obtain ⟨k, rfl⟩ : ∃ k : Nat, kd = k := ⟨kd.toNat, by omega⟩
  have e10 : Ends ([10] ++ r) := ⟨10, r, rfl, by decide⟩
  unfold lineT at h
  simp only [Int.toNat_natCast, List.append_assoc] at h ha hb hc
  have hE := (e10.opt (u := useC k) (t := numT c)).opt (u := useB k) (t := hexT b)
  obtain ⟨x, l, hxl, hx⟩ := hE.opt (u := useA k) (t := numT a)
  have h0 := h
  rw [hxl] at h0
  have hwd := word_at h0 (kw_word ⟨k, by omega⟩) hx (kw_ne ⟨k, by omega⟩ (by show 1 ≤ k; omega))
  rw [ev_kind hwd (by omega) (by omega) rfl]
  have h1 := adv h
  have p1 := a_at h1 hE la ha
  have h2 := adv h1
  have p2 := b_at h2 (e10.opt (u := useC k) (t := numT c)) hb
  have h3 := adv h2
  have p3 := a_at h3 e10 lc hc
  have h4 := adv h3
  unfold argsP
  simp only [p1, p2, p3, exp_at h4]
  have e1 : ((a.toNat : Nat) : Int) = a := by omega
  have e2 : ((c.toNat : Nat) : Int) = c := by omega
  rw [e1, e2]
  congr 2
  unfold lineT
  simp only [Int.toNat_natCast, List.length_append, List.length_cons, List.length_nil]; omega

/-! ### what was read was written so -/
theorem at_drop {s : List UInt8} {q : Nat} (h : q < s.length) : s.drop q = s[q] :: s.drop (q + 1) := List.drop_eq_getElem_cons h
theorem exp_back {s : List UInt8} {q q1 : Nat} {b : UInt8} (h : expP s q b = .ok q1) : q1 = q + 1 ∧ s.drop q = b :: s.drop q1 ∧ q1 ≤ s.length := by
  obtain ⟨rfl, hq, hb⟩ := exp_inv h
  exact ⟨rfl, by rw [at_drop hq, hb], hq⟩
theorem wL_word (s : List UInt8) (q : Nat) : ∀ x ∈ wL s q, wB x = true := fun x hx => by
  have := List.all_takeWhile (p := wB) (l := s.drop q)
  rw [List.all_eq_true] at this
  exact this x hx
theorem word_back {s w : List UInt8} {q q1 : Nat} (h : wordP s q = .ok (w, q1)) : w ≠ [] ∧ q1 = q + w.length ∧ s.drop q = w ++ s.drop q1 ∧ q1 ≤ s.length ∧ ∀ x ∈ w, wB x = true := by
  obtain ⟨rfl, h0, rfl, hl⟩ := word_inv h
  refine ⟨fun h => h0 (by rw [h]; rfl), rfl, ?_, hl, wL_word s q⟩
  have := wL_take s q
  rw [← List.drop_drop]
  have h2 : s.drop q = (s.drop q).take (wL s q).length ++ (s.drop q).drop (wL s q).length := (List.take_append_drop _ _).symm
  rw [this] at h2; exact h2
theorem num_back {s : List UInt8} {q n q2 : Nat} (h : numP s q = .ok (n, q2)) : n ≤ 1048576 ∧ s.drop q = 32 :: (Lib.decDigits n ++ s.drop q2) ∧ q2 = q + (1 + (Lib.decDigits n).length) ∧ q2 ≤ s.length := by
  unfold numP at h
  cases h1 : expP s q 32 with
  | error e => rw [h1] at h; cases h
  | ok q1 =>
    rw [h1] at h; dsimp only at h
    cases h2 : wordP s q1 with
    | error e => rw [h2] at h; cases h
    | ok r =>
      obtain ⟨w, q3⟩ := r
      rw [h2] at h; dsimp only at h
      obtain ⟨rfl, e1, _⟩ := exp_back h1
      obtain ⟨hw, rfl, e2, hl, _⟩ := word_back h2
      obtain ⟨rfl, hn, rfl⟩ := num_inv hw h
      exact ⟨hn, by rw [e1, e2], by omega, hl⟩
theorem bytes_back {s b : List UInt8} {q q2 : Nat} (h : bytesP s q = .ok (b, q2)) : s.drop q = 32 :: (hexT b ++ s.drop q2) ∧ q2 = q + (1 + (hexT b).length) ∧ q2 ≤ s.length := by
  unfold bytesP at h
  cases h1 : expP s q 32 with
  | error e => rw [h1] at h; cases h
  | ok q1 =>
    rw [h1] at h; dsimp only at h
    cases h2 : wordP s q1 with
    | error e => rw [h2] at h; cases h
    | ok r =>
      obtain ⟨w, q3⟩ := r
      rw [h2] at h; dsimp only at h
      obtain ⟨rfl, e1, _⟩ := exp_back h1
      obtain ⟨hw, rfl, e2, hl, _⟩ := word_back h2
      obtain ⟨rfl, rfl⟩ := hex_inv hw h
      exact ⟨by rw [e1, e2], by omega, hl⟩
theorem a_back {s : List UInt8} {u : Bool} {q n q2 : Nat} (hq : q ≤ s.length) (h : aP s u q = .ok (n, q2)) : (u = true ∨ n = 0) ∧ n ≤ 1048576 ∧ s.drop q = optT u (numT n) ++ s.drop q2 ∧ q2 = q + (optT u (numT n)).length ∧ q2 ≤ s.length := by
  unfold aP at h
  cases u with
  | false => rw [if_neg (by simp)] at h; cases h; exact ⟨.inr rfl, by decide, rfl, rfl, hq⟩
  | true =>
    rw [if_pos rfl] at h
    obtain ⟨h1, h2, h3, h4⟩ := num_back h
    refine ⟨.inl rfl, h1, h2, ?_, h4⟩
    simp only [optT, if_true, numT, List.length_cons, Int.toNat_natCast]; omega
theorem b_back {s b : List UInt8} {u : Bool} {q q2 : Nat} (hq : q ≤ s.length) (h : bP s u q = .ok (b, q2)) : (u = true ∨ b = []) ∧ s.drop q = optT u (hexT b) ++ s.drop q2 ∧ q2 = q + (optT u (hexT b)).length ∧ q2 ≤ s.length := by
  unfold bP at h
  cases u with
  | false => rw [if_neg (by simp)] at h; cases h; exact ⟨.inr rfl, rfl, rfl, hq⟩
  | true =>
    rw [if_pos rfl] at h
    obtain ⟨h2, h3, h4⟩ := bytes_back h
    refine ⟨.inl rfl, h2, ?_, h4⟩
    simp only [optT, if_true, List.length_cons]; omega
/-- What a line's parts read, one after the other. -/
inductive Read (s : List UInt8) (k q : Nat) (e : Ev) (q4 : Nat) : Prop
  | mk (a : Nat) (b : List UInt8) (c q1 q2 q3 : Nat) (he : e = ⟨k, a, c, b⟩) (ra : aP s (useA k) q = .ok (a, q1)) (rb : bP s (useB k) q1 = .ok (b, q2)) (rc : aP s (useC k) q2 = .ok (c, q3)) (rx : expP s q3 10 = .ok q4)
theorem args_read {s : List UInt8} {k q q4 : Nat} {e : Ev} (h : argsP s k q = .ok (e, q4)) : Read s k q e q4 := by
  unfold argsP at h
  cases h1 : aP s (useA k) q with
  | error e => rw [h1] at h; cases h
  | ok r =>
    obtain ⟨a, q1⟩ := r
    rw [h1] at h; dsimp only at h
    cases h2 : bP s (useB k) q1 with
    | error e => rw [h2] at h; cases h
    | ok r =>
      obtain ⟨b, q2⟩ := r
      rw [h2] at h; dsimp only at h
      cases h3 : aP s (useC k) q2 with
      | error e => rw [h3] at h; cases h
      | ok r =>
        obtain ⟨c, q3⟩ := r
        rw [h3] at h; dsimp only at h
        cases h4 : expP s q3 10 with
        | error e => rw [h4] at h; cases h
        | ok q5 => rw [h4] at h; dsimp only at h; cases h; exact ⟨a, b, c, q1, q2, q3, rfl, h1, h2, h3, h4⟩
theorem event_back {s : List UInt8} {q q' : Nat} {e : Ev} (h : eventP s q = .ok (e, q')) : Wr e ∧ s.drop q = lineT e ++ s.drop q' ∧ q' = q + (lineT e).length ∧ q' ≤ s.length := by
  unfold eventP at h
  cases h1 : wordP s q with
  | error e => rw [h1] at h; cases h
  | ok r =>
    obtain ⟨w, q1⟩ := r
    rw [h1] at h; dsimp only at h
    split at h
    · cases h
    · rename_i hk
      obtain ⟨k1, k9, hkw⟩ := kind_inv hk
      obtain ⟨hw, hq1, hd1, hl1, _⟩ := word_back h1
      obtain ⟨a, b, c, q2, q3, q4, rfl, r1, r2, r3, r4⟩ := args_read h
      generalize kindF w = k at *
      subst hkw
      obtain ⟨u1, l1, d1, rfl, b1⟩ := a_back hl1 r1
      obtain ⟨u2, d2, rfl, b2⟩ := b_back b1 r2
      obtain ⟨u3, l3, d3, rfl, b3⟩ := a_back b2 r3
      obtain ⟨rfl, d4, b4⟩ := exp_back r4
      refine ⟨⟨by show 1 ≤ (k : Int); omega, by show (k : Int) ≤ 9; omega, ?_, ?_, ?_, ⟨by show 0 ≤ (a : Int); omega, by show (a : Int) ≤ _; omega⟩, ⟨by show 0 ≤ (c : Int); omega, by show (c : Int) ≤ _; omega⟩⟩, ?_, ?_, b4⟩
      · rcases u1 with h | h
        · exact .inl h
        · right; show (a : Int) = 0; omega
      · rcases u2 with h | h
        · exact .inl h
        · right; exact h
      · rcases u3 with h | h
        · exact .inl h
        · right; show (c : Int) = 0; omega
      · unfold lineT
        simp only [Int.toNat_natCast]
        rw [hd1, d1, d2, d3, d4]
        simp [List.append_assoc]
      · unfold lineT
        simp only [Int.toNat_natCast, List.length_append, List.length_cons, List.length_nil]
        omega
theorem line_pos (e : Ev) : 0 < (lineT e).length := by unfold lineT; simp only [List.length_append, List.length_cons]; omega
theorem parse_back {s : List UInt8} : ∀ (f q n : Nat) (l : List Ev), q ≤ s.length → parseG s f q n = .ok l → (∀ e ∈ l, Wr e) ∧ s.drop q = linesT l ∧ (l = [] ∨ n + l.length ≤ 400 ∨ 400 < n)
  | 0, q, n, l, hq, h => by
    unfold parseG at h
    split at h
    · rename_i h1; cases h; exact ⟨fun _ he => (by cases he), by rw [List.drop_eq_nil_of_le h1]; rfl, .inl rfl⟩
    · cases h
  | f + 1, q, n, l, hq, h => by
    unfold parseG at h
    split at h
    · rename_i h1; cases h; exact ⟨fun _ he => (by cases he), by rw [List.drop_eq_nil_of_le h1]; rfl, .inl rfl⟩
    · split at h
      · cases h
      · rename_i hn
        cases h1 : eventP s q with
        | error e => rw [h1] at h; cases h
        | ok r =>
          obtain ⟨e, q1⟩ := r
          rw [h1] at h; dsimp only at h
          cases h2 : parseG s f q1 (n + 1) with
          | error e => rw [h2] at h; cases h
          | ok l1 =>
            rw [h2] at h; dsimp only at h; cases h
            obtain ⟨hw, hd, _, hl⟩ := event_back h1
            obtain ⟨i1, i2, i3⟩ := parse_back f q1 (n + 1) l1 hl h2
            refine ⟨fun x hx => ?_, ?_, ?_⟩
            · rcases List.mem_cons.1 hx with rfl | hx
              · exact hw
              · exact i1 x hx
            · rw [hd, i2]; rfl
            · right; rw [List.length_cons]
              rcases i3 with rfl | h3 | h3
              · rw [List.length_nil]; omega
              · left; omega
              · omega
theorem fmt_wr {l : List Ev} (h : ∀ e ∈ l, Wr e) : fmtT l = linesT l := by
  unfold fmtT; rw [if_pos]
  rw [List.all_eq_true]; intro e he; exact (wr_iff e).2 (h e he)
/-- A text that is read is the text of what is read. -/
theorem text_unique {s : List UInt8} {l : List Ev} (h : parseP s = .ok l) : fmtT l = s := by
  unfold parseP at h
  split at h
  · cases h
  · obtain ⟨h1, h2, _⟩ := parse_back _ 0 0 l (Nat.zero_le _) h
    rw [fmt_wr h1, ← h2]; rfl

/-! ### the text of lines is read again -/
theorem parse_lines {s : List UInt8} : ∀ (l : List Ev) (f q n : Nat), (∀ e ∈ l, Wr e) → s.drop q = linesT l → s.length ≤ q + f → n + l.length ≤ 400 → parseG s f q n = .ok l
  | [], f, q, n, _, h, _, _ => by
    have hq : s.length ≤ q := List.drop_eq_nil_iff.1 h
    cases f <;> (unfold parseG; rw [if_pos hq])
  | e :: l, f, q, n, hw, h, hf, hn => by
    have hpos := line_pos e
    have hd : s.drop q = lineT e ++ linesT l := h
    have hlen := congrArg List.length hd
    rw [List.length_drop, List.length_append] at hlen
    cases f with
    | zero => omega
    | succ f =>
      rw [List.length_cons] at hn
      have hev := event_line (hw e (by simp)) hd
      have ih := parse_lines l f (q + (lineT e).length) (n + 1) (fun x hx => hw x (by simp [hx])) (adv hd) (by omega) (by omega)
      unfold parseG
      rw [if_neg (by omega), if_neg (by omega), hev]
      dsimp only
      rw [ih]
theorem parse_many {s : List UInt8} : ∀ (l : List Ev) (f q n : Nat), (∀ e ∈ l, Wr e) → s.drop q = linesT l → s.length ≤ q + f → n ≤ 400 → 400 < n + l.length → parseG s f q n = .error (2, q + (linesT (l.take (400 - n))).length)
  | [], f, q, n, _, _, _, h1, h2 => by rw [List.length_nil] at h2; omega
  | e :: l, f, q, n, hw, h, hf, hn, hl => by
    have hpos := line_pos e
    have hd : s.drop q = lineT e ++ linesT l := h
    have hlen := congrArg List.length hd
    rw [List.length_drop, List.length_append] at hlen
    cases f with
    | zero => omega
    | succ f =>
      rw [List.length_cons] at hl
      unfold parseG
      rw [if_neg (by omega)]
      by_cases h4 : n = 400
      · rw [if_pos h4, h4]; rfl
      · have hev := event_line (hw e (by simp)) hd
        have ih := parse_many l f (q + (lineT e).length) (n + 1) (fun x hx => hw x (by simp [hx])) (adv hd) (by omega) (by omega) (by omega)
        rw [if_neg h4, hev]
        dsimp only
        rw [ih, show 400 - n = (400 - (n + 1)) + 1 by omega, List.take_succ_cons]
        show _ = Except.error (2, q + (lineT e ++ linesT (l.take (400 - (n + 1)))).length)
        rw [List.length_append, Nat.add_assoc]
theorem round_trip {x : List Ev} (hw : ∀ e ∈ x, Wr e) (h4 : x.length ≤ 400) (hl : (fmtT x).length ≤ 4000) : parseP (fmtT x) = .ok x := by
  unfold parseP
  rw [if_neg (by omega)]
  exact parse_lines x _ 0 0 hw (by rw [fmt_wr hw]; rfl) (by omega) (by omega)
theorem fmt_nil {x : List Ev} (hw : ∀ e ∈ x, Wr e) : fmtT x = [] ↔ x = [] := by
  rw [fmt_wr hw]
  constructor
  · intro h
    cases x with
    | nil => rfl
    | cons e l =>
      have h2 : lineT e ++ linesT l = [] := h
      have := congrArg List.length h2
      have hp := line_pos e
      rw [List.length_append, List.length_nil] at this; omega
  · rintro rfl; rfl
theorem fmt_cat {x y : List Ev} (hx : ∀ e ∈ x, Wr e) (hy : ∀ e ∈ y, Wr e) : fmtT x ++ fmtT y = fmtT (x ++ y) := by
  rw [fmt_wr hx, fmt_wr hy, fmt_wr (fun e he => (List.mem_append.1 he).elim (hx e) (hy e))]
  unfold linesT; rw [List.flatMap_append]
def syncE : Ev := ⟨9, 0, 0, []⟩
theorem sync_wr : Wr syncE := (wr_iff _).1 (by decide)
theorem sync_line : lineT syncE = [115, 121, 110, 99, 10] := by decide
theorem syncs (n : Nat) : linesT (List.replicate n syncE) = (List.replicate n [115, 121, 110, 99, 10]).flatten := by
  unfold linesT
  induction n with
  | zero => rfl
  | succ n ih => rw [List.replicate_succ, List.replicate_succ, List.flatMap_cons, List.flatten_cons, ih, sync_line]
theorem syncs_len (n : Nat) : (linesT (List.replicate n syncE)).length = 5 * n := by
  unfold linesT
  induction n with
  | zero => rfl
  | succ n ih => rw [List.replicate_succ, List.flatMap_cons, List.length_append, ih, sync_line]; simp only [List.length_cons, List.length_nil]; omega
theorem many_ok {n : Nat} (h : n ≤ 400) : parseP (linesT (List.replicate n syncE)) = .ok (List.replicate n syncE) := by
  have := syncs_len n
  unfold parseP
  rw [if_neg (by omega)]
  refine parse_lines _ _ 0 0 (fun e he => ?_) rfl (by omega) (by rw [List.length_replicate]; omega)
  rw [List.eq_of_mem_replicate he]; exact sync_wr
theorem many_big {n : Nat} (h : 400 < n) (h2 : n ≤ 800) : parseP (linesT (List.replicate n syncE)) = .error (2, 2000) := by
  have := syncs_len n
  unfold parseP
  rw [if_neg (by omega), parse_many (s := linesT (List.replicate n syncE)) (List.replicate n syncE) _ 0 0 (fun e he => by rw [List.eq_of_mem_replicate he]; exact sync_wr) rfl (by omega) (by omega) (by rw [List.length_replicate]; omega)]
  rw [List.take_replicate, show min (400 - 0) n = 400 by omega, syncs_len]
end Go.Proofs.YtcnljflihhggiaaGreatDoor
