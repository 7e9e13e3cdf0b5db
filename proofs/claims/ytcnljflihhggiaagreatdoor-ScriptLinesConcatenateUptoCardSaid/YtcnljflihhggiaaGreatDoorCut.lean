/- Package script: what is read of a text that is cut off. -/
import Derived.Test.YtcnljflihhggiaaGreatDoorPlain
namespace Go.Proofs.YtcnljflihhggiaaGreatDoor
open Go Go.Ex

/-- The last word of a text begins at p. -/
def LwOk (t : List UInt8) (p : Nat) : Prop := p ≤ t.length ∧ (∀ i (h : i < t.length), p ≤ i → wB t[i] = true) ∧ (p = 0 ∨ ∃ h : p - 1 < t.length, wB t[p - 1] = false)
theorem LwOk.one {t : List UInt8} {p p' : Nat} (h : LwOk t p) (h' : LwOk t p') : p = p' := by
  obtain ⟨a1, a2, a3⟩ := h
  obtain ⟨b1, b2, b3⟩ := h'
  rcases Nat.lt_trichotomy p p' with hl | hl | hl
  · rcases b3 with rfl | ⟨h1, h2⟩
    · omega
    · have := a2 _ h1 (by omega); rw [h2] at this; cases this
  · exact hl
  · rcases a3 with rfl | ⟨h1, h2⟩
    · omega
    · have := b2 _ h1 (by omega); rw [h2] at this; cases this
/-- How a text that is cut off is rejected. -/
def CutE (t : List UInt8) (e : Er) : Prop := e = (21, t.length) ∨ ∃ p, e = (20, p) ∧ LwOk t p ∧ p < t.length
def Cut {α : Type} (t : List UInt8) (r : Except Er α) : Prop := ∃ e, r = .error e ∧ CutE t e
theorem takeWhile_take {α : Type} (p : α → Bool) : ∀ (l : List α) (m : Nat), (l.take m).takeWhile p = (l.takeWhile p).take m
  | [], m => by simp
  | x :: l, 0 => by simp
  | x :: l, m + 1 => by
    rw [List.take_succ_cons, List.takeWhile_cons, List.takeWhile_cons]
    cases hx : p x
    · simp
    · simp [takeWhile_take p l m]
section
variable {s : List UInt8} {K : Nat}
theorem cut_len (hK : K ≤ s.length) : (s.take K).length = K := by rw [List.length_take]; omega
theorem exp_cut (hK : K ≤ s.length) {q q1 : Nat} {b : UInt8} (h : expP s q b = .ok q1) (h1 : q1 ≤ K) : expP (s.take K) q b = .ok q1 := by
  obtain ⟨rfl, hq, hb⟩ := exp_inv h
  exact exp_ok (by rw [cut_len hK]; omega) (by rw [List.getElem_take]; exact hb)
theorem exp_off (hK : K ≤ s.length) {q q1 : Nat} {b : UInt8} (h : expP s q b = .ok q1) (hq : q ≤ K) (h1 : K < q1) : expP (s.take K) q b = .error (21, (s.take K).length) := by
  obtain ⟨rfl, _, _⟩ := exp_inv h
  obtain rfl : q = K := by omega
  rw [exp_end (by rw [cut_len hK]; omega), cut_len hK]
theorem wL_cut (q : Nat) : wL (s.take K) q = (wL s q).take (K - q) := by
  unfold wL; rw [List.drop_take, takeWhile_take]
theorem word_cut (hK : K ≤ s.length) {w : List UInt8} {q q1 : Nat} (h : wordP s q = .ok (w, q1)) (h1 : q1 ≤ K) : wordP (s.take K) q = .ok (w, q1) := by
  obtain ⟨rfl, h0, rfl, hl⟩ := word_inv h
  have e : wL (s.take K) q = wL s q := by rw [wL_cut, List.take_of_length_le (by omega)]
  rw [word_ok (by rw [cut_len hK]; omega) (by rw [e]; exact h0), e]
theorem word_off (hK : K ≤ s.length) {w : List UInt8} {q q1 : Nat} (h : wordP s q = .ok (w, q1)) (hq : q < K) (h1 : K < q1) : wordP (s.take K) q = .ok (w.take (K - q), K) := by
  obtain ⟨rfl, h0, rfl, hl⟩ := word_inv h
  have e : (wL (s.take K) q).length = K - q := by rw [wL_cut, List.length_take]; omega
  rw [word_ok (by rw [cut_len hK]; omega) (by omega), e, wL_cut, show q + (K - q) = K by omega]
theorem lw_of (hK : K ≤ s.length) {w : List UInt8} {q q1 : Nat} (h : wordP s q = .ok (w, q1)) (hq : q < K) (h1 : K < q1) (hb : q = 0 ∨ ∃ h : q - 1 < s.length, wB s[q - 1] = false) : LwOk (s.take K) q := by
  obtain ⟨_, rfl, hd, hl, hw⟩ := word_back h
  refine ⟨by rw [cut_len hK]; omega, fun i hi hqi => ?_, ?_⟩
  · rw [cut_len hK] at hi
    rw [List.getElem_take]
    have hx : s[i] = w[i - q]'(by omega) := by
      have h2 : (s.drop q)[i - q]'(by rw [List.length_drop]; omega) = s[i] := by rw [List.getElem_drop]; congr 1; omega
      rw [← h2]
      have h3 : (w ++ s.drop (q + w.length))[i - q]'(by rw [List.length_append]; omega) = w[i - q]'(by omega) := List.getElem_append_left _
      rw [← h3]
      congr 1
    rw [hx]; exact hw _ (List.getElem_mem _)
  · rcases hb with hb | ⟨hb1, hb2⟩
    · exact .inl hb
    · right; refine ⟨by rw [cut_len hK]; omega, ?_⟩
      rw [List.getElem_take]; exact hb2
theorem valL_mono (t : List UInt8) : ∀ u : List UInt8, valL t ≤ valL (t ++ u) := by
  refine snoc_ind (by simp) fun u x ih => ?_
  rw [← List.append_assoc, valL_snoc]; omega
theorem numL_take (w : List UInt8) (j : Nat) : numL (w.take j) ≤ numL w := by
  have := valL_mono (w.take j) (w.drop j)
  rw [List.take_append_drop] at this
  rw [numL_min, numL_min]; omega
theorem numV_take {w : List UInt8} {p q n q2 j : Nat} (h : numV w p q = .ok (n, q2)) (p' q' : Nat) : numV (w.take j) p' q' = .ok (numL (w.take j), q') := by
  unfold numV at h
  split at h
  · cases h
  · rename_i hb
    split at h
    · cases h
    · rename_i hl
      have hb := badW_inv hb
      have hle := numL_take w j
      refine numV_ok (fun i hi => ?_) (by omega)
      rw [List.length_take] at hi
      have h1 := hb i (by omega)
      unfold badN at h1 ⊢
      rw [List.getD_eq_getElem?_getD, List.getD_eq_getElem?_getD] at h1 ⊢
      rw [List.getElem?_take_of_lt (by omega), List.getElem?_take_of_lt (by omega)]; exact h1
theorem num_cut (hK : K ≤ s.length) {n q q2 : Nat} (h : numP s q = .ok (n, q2)) (h1 : q2 ≤ K) : numP (s.take K) q = .ok (n, q2) := by
  unfold numP at h
  cases e1 : expP s q 32 with
  | error e => rw [e1] at h; cases h
  | ok q1 =>
    rw [e1] at h; dsimp only at h
    cases e2 : wordP s q1 with
    | error e => rw [e2] at h; cases h
    | ok r =>
      obtain ⟨w, q3⟩ := r
      rw [e2] at h; dsimp only at h
      obtain ⟨hw, hq3, _, _⟩ := word_back e2
      obtain ⟨_, _, rfl⟩ := num_inv hw h
      rw [num_of (exp_cut hK e1 (by omega)) (word_cut hK e2 h1), h]
theorem num_off (hK : K ≤ s.length) {n q q2 : Nat} (h : numP s q = .ok (n, q2)) (hq : q ≤ K) (h1 : K < q2) : Cut (s.take K) (numP (s.take K) q) ∨ ∃ m, numP (s.take K) q = .ok (m, K) := by
  unfold numP at h
  cases e1 : expP s q 32 with
  | error e => rw [e1] at h; cases h
  | ok q1 =>
    rw [e1] at h; dsimp only at h
    cases e2 : wordP s q1 with
    | error e => rw [e2] at h; cases h
    | ok r =>
      obtain ⟨w, q3⟩ := r
      rw [e2] at h; dsimp only at h
      obtain ⟨hw, hq3, _, _⟩ := word_back e2
      obtain ⟨_, _, rfl⟩ := num_inv hw h
      by_cases hk1 : K < q1
      · exact .inl ⟨_, num_e1 (exp_off hK e1 hq hk1), .inl rfl⟩
      · by_cases hk2 : q1 = K
        · subst hk2
          refine .inl ⟨_, num_e2 (exp_cut hK e1 (Nat.le_refl _)) (word_end (by rw [cut_len hK]; omega)), .inl ?_⟩
          rw [cut_len hK]
        · refine .inr ⟨numL (w.take (K - q1)), ?_⟩
          rw [num_of (exp_cut hK e1 (by omega)) (word_off hK e2 (by omega) h1)]
          exact numV_take h _ _
theorem bytes_cut (hK : K ≤ s.length) {b : List UInt8} {q q2 : Nat} (h : bytesP s q = .ok (b, q2)) (h1 : q2 ≤ K) : bytesP (s.take K) q = .ok (b, q2) := by
  unfold bytesP at h
  cases e1 : expP s q 32 with
  | error e => rw [e1] at h; cases h
  | ok q1 =>
    rw [e1] at h; dsimp only at h
    cases e2 : wordP s q1 with
    | error e => rw [e2] at h; cases h
    | ok r =>
      obtain ⟨w, q3⟩ := r
      rw [e2] at h; dsimp only at h
      obtain ⟨hw, hq3, _, _⟩ := word_back e2
      obtain ⟨_, rfl⟩ := hex_inv hw h
      rw [bytes_of (exp_cut hK e1 (by omega)) (word_cut hK e2 h1), h]
theorem bytes_off (hK : K ≤ s.length) {b : List UInt8} {q q2 : Nat} (h : bytesP s q = .ok (b, q2)) (hq : q ≤ K) (h1 : K < q2) : Cut (s.take K) (bytesP (s.take K) q) ∨ ∃ m, bytesP (s.take K) q = .ok (m, K) := by
  unfold bytesP at h
  cases e1 : expP s q 32 with
  | error e => rw [e1] at h; cases h
  | ok q1 =>
    rw [e1] at h; dsimp only at h
    cases e2 : wordP s q1 with
    | error e => rw [e2] at h; cases h
    | ok r =>
      obtain ⟨w, q3⟩ := r
      rw [e2] at h; dsimp only at h
      obtain ⟨hw, hq3, _, _⟩ := word_back e2
      obtain ⟨_, rfl⟩ := hex_inv hw h
      obtain ⟨rfl, hql, hqb⟩ := exp_inv e1
      by_cases hk1 : K < q + 1
      · exact .inl ⟨_, bytes_e1 (exp_off hK e1 hq hk1), .inl rfl⟩
      · by_cases hk2 : q + 1 = K
        · subst hk2
          refine .inl ⟨_, bytes_e2 (exp_cut hK e1 (Nat.le_refl _)) (word_end (by rw [cut_len hK]; omega)), .inl ?_⟩
          rw [cut_len hK]
        · rw [bytes_of (exp_cut hK e1 (by omega)) (word_off hK e2 (by omega) h1)]
          unfold hexW
          split
          · exact .inr ⟨_, rfl⟩
          · split
            · refine .inl ⟨_, rfl, .inr ⟨_, rfl, lw_of hK e2 (by omega) h1 (.inr ⟨by omega, ?_⟩), by rw [cut_len hK]; omega⟩⟩
              simp only [Nat.add_sub_cancel, hqb]; decide
            · exact .inr ⟨_, rfl⟩
theorem a_cut (hK : K ≤ s.length) {u : Bool} {n q q2 : Nat} (h : aP s u q = .ok (n, q2)) (h1 : q2 ≤ K) : aP (s.take K) u q = .ok (n, q2) := by
  unfold aP at h ⊢
  cases u with
  | false => exact h
  | true => exact num_cut hK h h1
theorem b_cut (hK : K ≤ s.length) {u : Bool} {b : List UInt8} {q q2 : Nat} (h : bP s u q = .ok (b, q2)) (h1 : q2 ≤ K) : bP (s.take K) u q = .ok (b, q2) := by
  unfold bP at h ⊢
  cases u with
  | false => exact h
  | true => exact bytes_cut hK h h1
theorem a_off (hK : K ≤ s.length) {u : Bool} {n q q2 : Nat} (h : aP s u q = .ok (n, q2)) (hq : q ≤ K) (h1 : K < q2) : Cut (s.take K) (aP (s.take K) u q) ∨ ∃ m, aP (s.take K) u q = .ok (m, K) := by
  unfold aP at h ⊢
  cases u with
  | false => rw [if_neg (by simp)] at h; cases h; omega
  | true => exact num_off hK h hq h1
theorem b_off (hK : K ≤ s.length) {u : Bool} {b : List UInt8} {q q2 : Nat} (h : bP s u q = .ok (b, q2)) (hq : q ≤ K) (h1 : K < q2) : Cut (s.take K) (bP (s.take K) u q) ∨ ∃ m, bP (s.take K) u q = .ok (m, K) := by
  unfold bP at h ⊢
  cases u with
  | false => rw [if_neg (by simp)] at h; cases h; omega
  | true => exact bytes_off hK h hq h1
end
/-! at the end of a text nothing is read any more -/
theorem a_end {t : List UInt8} {K : Nat} (hK : t.length = K) (u : Bool) : aP t u K = .error (21, t.length) ∨ aP t u K = .ok (0, K) := by
  unfold aP
  cases u with
  | false => exact .inr rfl
  | true => left; rw [if_pos rfl, num_e1 (exp_end (by omega)), hK]
theorem b_end {t : List UInt8} {K : Nat} (hK : t.length = K) (u : Bool) : bP t u K = .error (21, t.length) ∨ bP t u K = .ok ([], K) := by
  unfold bP
  cases u with
  | false => exact .inr rfl
  | true => left; rw [if_pos rfl, bytes_e1 (exp_end (by omega)), hK]
theorem x_end {t : List UInt8} {K : Nat} {b : UInt8} (hK : t.length = K) : expP t K b = .error (21, t.length) := by rw [exp_end (by omega), hK]
theorem args_c {t : List UInt8} {K k q q1 q2 a c : Nat} {b : List UInt8} (hK : t.length = K) (ha : aP t (useA k) q = .ok (a, q1)) (hb : bP t (useB k) q1 = .ok (b, q2)) (hc : aP t (useC k) q2 = .ok (c, K)) : Cut t (argsP t k q) := by
  refine ⟨_, ?_, .inl rfl⟩
  unfold argsP; simp only [ha, hb, hc, x_end hK]
theorem args_b {t : List UInt8} {K k q q1 a : Nat} {b : List UInt8} (hK : t.length = K) (ha : aP t (useA k) q = .ok (a, q1)) (hb : bP t (useB k) q1 = .ok (b, K)) : Cut t (argsP t k q) := by
  rcases a_end hK (useC k) with h | h
  · refine ⟨_, ?_, .inl rfl⟩
    unfold argsP; simp only [ha, hb, h]
  · exact args_c hK ha hb h
theorem args_a {t : List UInt8} {K k q a : Nat} (hK : t.length = K) (ha : aP t (useA k) q = .ok (a, K)) : Cut t (argsP t k q) := by
  rcases b_end hK (useB k) with h | h
  · refine ⟨_, ?_, .inl rfl⟩
    unfold argsP; simp only [ha, h]
  · exact args_b hK ha h
theorem args_end {t : List UInt8} {K : Nat} (hK : t.length = K) (k : Nat) : Cut t (argsP t k K) := by
  rcases a_end hK (useA k) with h | h
  · refine ⟨_, ?_, .inl rfl⟩
    unfold argsP; simp only [h]
  · exact args_a hK h
section
variable {s : List UInt8} {K : Nat}
theorem args_cut (hK : K ≤ s.length) {k q q4 : Nat} {e : Ev} (hq : q ≤ K) (h : argsP s k q = .ok (e, q4)) : (q4 ≤ K ∧ argsP (s.take K) k q = .ok (e, q4)) ∨ (K < q4 ∧ Cut (s.take K) (argsP (s.take K) k q)) := by
  obtain ⟨a, b, c, q1, q2, q3, rfl, r1, r2, r3, r4⟩ := args_read h
  have hl := cut_len hK
  have m1 := a_back (by omega) r1
  have m2 := b_back m1.2.2.2.2 r2
  have m3 := a_back m2.2.2.2 r3
  have m4 := exp_back r4
  have hm1 := m1.2.2.2.1; have hm2 := m2.2.2.1; have hm3 := m3.2.2.2.1; have hm4 := m4.1
  by_cases k1 : q1 ≤ K
  · have c1 := a_cut hK r1 k1
    by_cases k2 : q2 ≤ K
    · have c2 := b_cut hK r2 k2
      by_cases k3 : q3 ≤ K
      · have c3 := a_cut hK r3 k3
        by_cases k4 : q4 ≤ K
        · have c4 := exp_cut hK r4 k4
          left; refine ⟨k4, ?_⟩
          unfold argsP; simp only [c1, c2, c3, c4]
        · right; refine ⟨by omega, _, ?_, .inl rfl⟩
          unfold argsP; simp only [c1, c2, c3, exp_off hK r4 k3 (by omega)]
      · right; refine ⟨by omega, ?_⟩
        rcases a_off hK r3 k2 (by omega) with ⟨e, he, hc⟩ | ⟨m, hm⟩
        · refine ⟨e, ?_, hc⟩
          unfold argsP; simp only [c1, c2, he]
        · exact args_c hl c1 c2 hm
    · right; refine ⟨by omega, ?_⟩
      rcases b_off hK r2 k1 (by omega) with ⟨e, he, hc⟩ | ⟨m, hm⟩
      · refine ⟨e, ?_, hc⟩
        unfold argsP; simp only [c1, he]
      · exact args_b hl c1 hm
  · right; refine ⟨by omega, ?_⟩
    rcases a_off hK r1 hq (by omega) with ⟨e, he, hc⟩ | ⟨m, hm⟩
    · refine ⟨e, ?_, hc⟩
      unfold argsP; simp only [he]
    · exact args_a hl hm
theorem event_cut (hK : K ≤ s.length) {q q' : Nat} {e : Ev} (hq : q < K) (hb : q = 0 ∨ ∃ h : q - 1 < s.length, wB s[q - 1] = false) (h : eventP s q = .ok (e, q')) : (q' ≤ K ∧ eventP (s.take K) q = .ok (e, q')) ∨ (K < q' ∧ Cut (s.take K) (eventP (s.take K) q)) := by
  have hl := cut_len hK
  unfold eventP at h ⊢
  cases h1 : wordP s q with
  | error e => rw [h1] at h; cases h
  | ok r =>
    obtain ⟨w, q1⟩ := r
    rw [h1] at h; dsimp only at h
    split at h
    · cases h
    · rename_i hk
      obtain ⟨_, _, _, hql, _⟩ := word_back h1
      by_cases k1 : q1 ≤ K
      · rw [word_cut hK h1 k1]; dsimp only; rw [if_neg hk]
        exact args_cut hK k1 h
      · have hq1 : q1 ≤ q' := by
          obtain ⟨a, b, c, x1, x2, x3, rfl, r1, r2, r3, r4⟩ := args_read h
          have m1 := a_back hql r1
          have m2 := b_back m1.2.2.2.2 r2
          have m3 := a_back m2.2.2.2 r3
          have m4 := exp_back r4
          have hm1 := m1.2.2.2.1; have hm2 := m2.2.2.1; have hm3 := m3.2.2.2.1; have hm4 := m4.1
          omega
        right; refine ⟨by omega, ?_⟩
        rw [word_off hK h1 hq (by omega)]; dsimp only
        split
        · exact ⟨_, rfl, .inr ⟨q, rfl, lw_of hK h1 hq (by omega) hb, by omega⟩⟩
        · exact args_end hl _
end
/-! where a newline stands -/
theorem line_body (e : Ev) (hw : Wr e) : ∃ t, lineT e = t ++ [10] ∧ ∀ x ∈ t, x ≠ 10 := by
  have hwb : ∀ {x : UInt8}, wB x = true → x ≠ 10 := fun h h2 => by subst h2; exact absurd h (by decide)
  have hopt : ∀ {u : Bool} {t : List UInt8}, (∀ x ∈ t, wB x = true) → ∀ x ∈ optT u t, x ≠ 10 := by
    intro u t ht x hx
    unfold optT at hx
    cases u with
    | false => simp at hx
    | true =>
      rcases List.mem_cons.1 hx with rfl | hx
      · decide
      · exact hwb (ht x hx)
  have hk := hw.k1
  have hk9 := hw.k9
  refine ⟨_, rfl, fun x hx => ?_⟩
  rcases List.mem_append.1 hx with hx | hx
  · rcases List.mem_append.1 hx with hx | hx
    · rcases List.mem_append.1 hx with hx | hx
      · exact hwb (kw_word ⟨e.kind.toNat, by omega⟩ x hx)
      · exact hopt (fun y hy => dig_word (dec_dig _ y hy)) x hx
    · exact hopt (hexT_word e.b) x hx
  · exact hopt (fun y hy => dig_word (dec_dig _ y hy)) x hx
theorem lines_last : ∀ l : List Ev, l ≠ [] → ∃ t, linesT l = t ++ [10]
  | [], h => absurd rfl h
  | [e], _ => ⟨_, by show lineT e ++ [] = _; rw [List.append_nil]; rfl⟩
  | e :: d :: l, _ => by
    obtain ⟨t, ht⟩ := lines_last (d :: l) (by simp)
    exact ⟨lineT e ++ t, by show lineT e ++ linesT (d :: l) = _; rw [ht, List.append_assoc]⟩
theorem line_start {s : List UInt8} {q q' : Nat} {e : Ev} (h : eventP s q = .ok (e, q')) : ∃ h : q' - 1 < s.length, wB s[q' - 1] = false := by
  obtain ⟨hw, hd, rfl, hl⟩ := event_back h
  obtain ⟨t, ht, _⟩ := line_body e hw
  have hp := line_pos e
  refine ⟨by omega, ?_⟩
  have h2 : s[q + (lineT e).length - 1]? = some 10 := by
    rw [show q + (lineT e).length - 1 = q + ((lineT e).length - 1) by omega, ← List.getElem?_drop, hd, ht, List.append_assoc, List.length_append]
    simp
  rw [List.getElem?_eq_getElem (by omega)] at h2
  have h3 : s[q + (lineT e).length - 1]'(by omega) = 10 := by simpa using h2
  rw [h3]; decide
theorem mid_line {s : List UInt8} {q q' K : Nat} {e : Ev} (h : eventP s q = .ok (e, q')) (h1 : q < K) (h2 : K < q') : s[K - 1]? ≠ some 10 := by
  obtain ⟨hw, hd, rfl, hl⟩ := event_back h
  obtain ⟨t, ht, hn⟩ := line_body e hw
  rw [show K - 1 = q + (K - 1 - q) by omega, ← List.getElem?_drop, hd, ht, List.append_assoc]
  have hlen : (lineT e).length = t.length + 1 := by rw [ht]; simp
  rw [List.getElem?_append_left (by omega), List.getElem?_eq_getElem (by omega)]
  intro he
  exact hn _ (List.getElem_mem _) (by simpa using he)
theorem parse_cut {s : List UInt8} {K : Nat} (hK : K ≤ s.length) : ∀ (f g q n : Nat) (l : List Ev), q ≤ K → (q = 0 ∨ ∃ h : q - 1 < s.length, wB s[q - 1] = false) → K ≤ q + g → parseG s f q n = .ok l →
    (∃ l', parseG (s.take K) g q n = .ok l') ∨ (Cut (s.take K) (parseG (s.take K) g q n) ∧ 0 < K ∧ s[K - 1]? ≠ some 10)
  | f, g, q, n, l, hq, hb, hg, h => by
    have hl := cut_len hK
    rcases Nat.lt_or_ge q K with hlt | hge
    · cases g with
      | zero => omega
      | succ g =>
        cases f with
        | zero =>
          unfold parseG at h
          rw [if_neg (by omega)] at h; cases h
        | succ f =>
          unfold parseG at h
          rw [if_neg (by omega)] at h
          split at h
          · cases h
          · rename_i hn
            cases h1 : eventP s q with
            | error e => rw [h1] at h; cases h
            | ok r =>
              obtain ⟨e, q1⟩ := r
              rw [h1] at h; dsimp only at h
              cases h2 : parseG s f q1 (n + 1) with
              | error e => rw [h2] at h; cases h
              | ok l1 =>
                have hpos := line_pos e
                obtain ⟨_, _, hq1, _⟩ := event_back h1
                unfold parseG
                rw [if_neg (by omega), if_neg hn]
                rcases event_cut hK hlt hb h1 with ⟨k1, he⟩ | ⟨k1, er, he, hc⟩
                · rw [he]; dsimp only
                  rcases parse_cut hK f g q1 (n + 1) l1 k1 (.inr (line_start h1)) (by omega) h2 with ⟨l', hl'⟩ | ⟨⟨er, her, hc⟩, h3, h4⟩
                  · left; exact ⟨e :: l', by rw [hl']⟩
                  · right; refine ⟨⟨er, by rw [her], hc⟩, h3, h4⟩
                · right; rw [he]; exact ⟨⟨er, rfl, hc⟩, by omega, mid_line h1 hlt k1⟩
    · left
      refine ⟨[], ?_⟩
      cases g <;> (unfold parseG; rw [if_pos (by omega)])
/-- The law of cut-off texts. -/
theorem cut_law {s : List UInt8} {K : Nat} {l : List Ev} (hK : K ≤ s.length) (h : parseP s = .ok l) :
    ((K = 0 ∨ s[K - 1]? = some 10) → ∃ l', parseP (s.take K) = .ok l' ∧ fmtT l' = s.take K) ∧
    (¬ (K = 0 ∨ s[K - 1]? = some 10) → ∃ e, parseP (s.take K) = .error e ∧ CutE (s.take K) e) := by
  have hl := cut_len hK
  have h4 : s.length ≤ 4000 := by
    unfold parseP at h
    split at h
    · cases h
    · omega
  have hp : parseP (s.take K) = parseG (s.take K) K 0 0 := by unfold parseP; rw [if_neg (by omega), hl]
  have h0 : parseG s s.length 0 0 = .ok l := by
    unfold parseP at h
    rwa [if_neg (by omega)] at h
  rw [hp]
  rcases parse_cut hK s.length K 0 0 l (Nat.zero_le _) (.inl rfl) (by omega) h0 with ⟨l', hl'⟩ | ⟨⟨e, he, hc⟩, h1, h2⟩
  · have ht := text_unique (hp.trans hl')
    refine ⟨fun _ => ⟨l', hl', ht⟩, fun hn => ?_⟩
    exfalso; apply hn
    obtain ⟨w1, w2, _⟩ := parse_back _ 0 0 l' (Nat.zero_le _) hl'
    by_cases hnil : l' = []
    · subst hnil
      have := congrArg List.length w2
      rw [List.drop_zero, hl] at this
      left; exact this
    · obtain ⟨t, ht2⟩ := lines_last l' hnil
      right
      rw [List.drop_zero, ht2] at w2
      have hlen := congrArg List.length w2
      rw [hl, List.length_append] at hlen
      have h5 : (s.take K)[K - 1]? = some 10 := by
        rw [w2, List.getElem?_append_right (by simp at hlen; omega)]
        simp at hlen
        rw [show K - 1 - t.length = 0 by omega]; rfl
      rwa [List.getElem?_take_of_lt (by simp at hlen; omega)] at h5
  · refine ⟨fun hy => ?_, fun _ => ⟨e, he, hc⟩⟩
    rcases hy with hy | hy
    · omega
    · exact absurd hy h2
end Go.Proofs.YtcnljflihhggiaaGreatDoor
