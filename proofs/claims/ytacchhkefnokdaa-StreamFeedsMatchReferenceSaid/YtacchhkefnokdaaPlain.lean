/- The plain laws of the stream: bytes that come in pieces, frames one after the other. -/
import Derived.Test.YtacchhkefnokdaaModel
namespace Go.Proofs.Ytacchhkefnokdaa
open Go Go.Ex

abbrev P (r : List UInt8) (c : Int) : Pr := proc r.length r c
theorem proc_fuel : ∀ (f g : Nat) (r : List UInt8) (c : Int), r.length ≤ f → r.length ≤ g → proc f r c = proc g r c
  | 0, g, r, c, hf, _ => by
    have h2 : r.length < 2 := by omega
    rw [proc_short h2, proc_short h2]
  | f + 1, g, r, c, hf, hg => by
    by_cases h2 : r.length < 2
    · rw [proc_short h2, proc_short h2]
    obtain ⟨a, b, t, rfl⟩ := two_le (by omega : 2 ≤ r.length)
    simp only [List.length_cons] at hf hg
    obtain ⟨g, rfl⟩ : ∃ k, g = k + 1 := ⟨g - 1, by omega⟩
    simp only [proc]
    rw [proc_fuel f g t c (by omega) (by omega), proc_fuel f g (t.drop (256 * a.toNat + b.toNat)) (c - 1) (by rw [List.length_drop]; omega) (by rw [List.length_drop]; omega)]
theorem Pr.pre_pre (p : Pr) (a b : List (List UInt8)) : (p.pre b).pre a = p.pre (a ++ b) := by simp [Pr.pre]
section
variable {a b : UInt8} {t r : List UInt8} {c : Int}
theorem P_short (h : r.length < 2) : P r c = ⟨r, c, false, []⟩ := proc_short h
theorem P_big (h : 4096 < 256 * a.toNat + b.toNat) : P (a :: b :: t) c = ⟨[], c, true, []⟩ := proc_big (by simp) h
theorem P_zero (h : 256 * a.toNat + b.toNat = 0) : P (a :: b :: t) c = P t c := by
  show proc (t.length + 1 + 1) (a :: b :: t) c = _
  rw [proc_zero h]; exact proc_fuel _ _ _ _ (by omega) (Nat.le_refl _)
theorem P_wait (h1 : ¬ 4096 < 256 * a.toNat + b.toNat) (h2 : ¬ 256 * a.toNat + b.toNat = 0) (h3 : t.length < 256 * a.toNat + b.toNat ∨ c = 0) : P (a :: b :: t) c = ⟨a :: b :: t, c, false, []⟩ := proc_wait (by simp) h1 h2 h3
theorem P_take (h1 : ¬ 4096 < 256 * a.toNat + b.toNat) (h2 : ¬ 256 * a.toNat + b.toNat = 0) (h3 : ¬ (t.length < 256 * a.toNat + b.toNat ∨ c = 0)) :
    P (a :: b :: t) c = (P (t.drop (256 * a.toNat + b.toNat)) (c - 1)).pre [t.take (256 * a.toNat + b.toNat)] := by
  show proc (t.length + 1 + 1) (a :: b :: t) c = _
  have h := proc_take (f := t.length + 1) [] h1 h2 h3
  rw [Pr.pre_nil] at h
  rw [h, proc_fuel (t.length + 1) (t.drop (256 * a.toNat + b.toNat)).length _ _ (by rw [List.length_drop]; omega) (Nat.le_refl _)]
  rfl
end
/-- More bytes behind: what was taken is taken; the rest goes on. -/
theorem P_append : ∀ (n : Nat) (r : List UInt8) (c : Int) (s : List UInt8), r.length ≤ n →
    P (r ++ s) c = if (P r c).failed = true then P r c else (P ((P r c).rest ++ s) (P r c).credit).pre (P r c).msgs := by
  intro n
  induction n with
  | zero =>
    intro r c s h
    rw [P_short (r := r) (by omega)]; simp [Pr.pre_nil]
  | succ n ih =>
    intro r c s h
    by_cases h2 : r.length < 2
    · rw [P_short (r := r) h2]; simp [Pr.pre_nil]
    obtain ⟨a, b, t, rfl⟩ := two_le (by omega : 2 ≤ r.length)
    simp only [List.length_cons] at h
    show P (a :: b :: (t ++ s)) c = _
    by_cases hb : 4096 < 256 * a.toNat + b.toNat
    · rw [P_big hb, P_big hb]; simp
    by_cases hz : 256 * a.toNat + b.toNat = 0
    · rw [P_zero hz, P_zero hz]; exact ih t c s (by omega)
    by_cases hw : t.length < 256 * a.toNat + b.toNat ∨ c = 0
    · rw [P_wait (t := t) hb hz hw]; simp [Pr.pre_nil]
    · rw [P_take (t := t) hb hz hw, P_take (t := t ++ s) hb hz (by rw [List.length_append]; omega), List.drop_append_of_le_length (by omega), List.take_append_of_le_length (by omega),
        ih (t.drop (256 * a.toNat + b.toNat)) (c - 1) s (by rw [List.length_drop]; omega)]
      by_cases hF : (P (t.drop (256 * a.toNat + b.toNat)) (c - 1)).failed = true
      · rw [if_pos hF, if_pos (show (Pr.pre _ _).failed = true from hF)]
      · rw [if_neg hF, if_neg (show ¬ (Pr.pre _ _).failed = true from hF), Pr.pre_pre]; rfl
theorem proc_credit : ∀ (f : Nat) (r : List UInt8) (c : Int), 0 ≤ c → 0 ≤ (proc f r c).credit ∧ (proc f r c).credit ≤ c
  | 0, r, c, h => ⟨h, Int.le_refl _⟩
  | f + 1, [], c, h => ⟨h, Int.le_refl _⟩
  | f + 1, [_], c, h => ⟨h, Int.le_refl _⟩
  | f + 1, a :: b :: t, c, h => by
    simp only [proc]
    split
    · exact ⟨h, Int.le_refl _⟩
    · split
      · exact proc_credit f t c h
      · split
        · exact ⟨h, Int.le_refl _⟩
        · have := proc_credit f (t.drop (256 * a.toNat + b.toNat)) (c - 1) (by omega)
          exact ⟨this.1, Int.le_trans this.2 (by omega)⟩
theorem stable_of (r : List UInt8) (c : Int) (h : (P r c).failed = false) : P (P r c).rest (P r c).credit = ⟨(P r c).rest, (P r c).credit, false, []⟩ := by
  have e := P_append r.length r c [] (Nat.le_refl _)
  rw [if_neg (by simp [h])] at e
  simp only [List.append_nil] at e
  generalize hq : P (P r c).rest (P r c).credit = q at e ⊢
  have e1 := congrArg Pr.rest e
  have e2 := congrArg Pr.credit e
  have e3 := congrArg Pr.failed e
  have e4 := congrArg (fun p => p.msgs.length) e
  simp only [Pr.pre, List.length_append] at e1 e2 e3 e4
  obtain ⟨q1, q2, q3, q4⟩ := q
  dsimp only at e1 e2 e3 e4
  have e5 : q4 = [] := List.eq_nil_of_length_eq_zero (by omega)
  rw [← e1, ← e2, ← e3, h, e5]
def finR (p : Pr) : Dec × List (List UInt8) × Int := (⟨p.rest, p.credit, p.failed⟩, p.msgs, if p.failed = true then 4 else 0)
/-- Pieces: only what they are together matters. -/
theorem run_pieces : ∀ (ps : List (List UInt8)) (d : Dec), d.failed = false → 0 ≤ d.credit → d.credit ≤ 1073741824 → d.rest.length + ps.flatten.length ≤ 4098 → P d.rest d.credit = ⟨d.rest, d.credit, false, []⟩ →
    runF d ps = finR (P (d.rest ++ ps.flatten) d.credit)
  | [], d, hf, _, _, _, hs => by
    rw [List.flatten_nil, List.append_nil, hs]
    obtain ⟨r, c, f⟩ := d
    dsimp only at hf
    subst hf; rfl
  | b :: t, d, hf, h0, h1, hl, hs => by
    rw [List.flatten_cons, List.length_append] at hl
    have hv : validB d = true := validB_iff.2 ⟨by omega, h0, h1⟩
    have hA := P_append _ (d.rest ++ b) d.credit t.flatten (Nat.le_refl _)
    rw [List.flatten_cons, ← List.append_assoc, hA]
    cases hp : (P (d.rest ++ b) d.credit).failed with
    | true =>
      rw [if_pos rfl, runF, feedF_form hv hf hp, if_neg (by simp)]
      simp [finR, hp]
    | false =>
      rw [if_neg (by simp)]
      have hr := proc_rest_le (d.rest ++ b).length (d.rest ++ b) d.credit
      have hln : (d.rest ++ b).length = d.rest.length + b.length := List.length_append
      have hc := proc_credit (d.rest ++ b).length (d.rest ++ b) d.credit h0
      have hq : ¬ 4098 < (prF d b).rest.length := by show ¬ 4098 < (proc (d.rest ++ b).length (d.rest ++ b) d.credit).rest.length; omega
      rw [runF, feedF_ok hv hf hp hq, if_pos rfl]
      have ih : runF ⟨(prF d b).rest, (prF d b).credit, false⟩ t = _ := run_pieces t ⟨(P (d.rest ++ b) d.credit).rest, (P (d.rest ++ b) d.credit).credit, false⟩ rfl hc.1 (Int.le_trans hc.2 h1)
        (by show (proc (d.rest ++ b).length (d.rest ++ b) d.credit).rest.length + t.flatten.length ≤ 4098; omega) (stable_of _ _ hp)
      rw [ih]
      rfl
theorem hdr (n : Nat) (h : n < 65536) : 256 * (UInt8.ofNat (n / 256)).toNat + (UInt8.ofNat n).toNat = n := by simp; omega
theorem P_frame {x s : List UInt8} {c : Int} (h1 : 0 < x.length) (h2 : x.length ≤ 4096) (hc : c ≠ 0) : P (frameL x ++ s) c = (P s (c - 1)).pre [x] := by
  have h := hdr x.length (by omega)
  show P (_ :: _ :: (x ++ s)) c = _
  rw [P_take (by rw [h]; omega) (by rw [h]; omega) (by rw [h, List.length_append]; omega), h, List.drop_left, List.take_left]
theorem P_frame0 {s : List UInt8} {c : Int} : P (frameL [] ++ s) c = P s c := P_zero (by decide)
theorem P_pause {s : List UInt8} {c : Int} : P (0 :: 0 :: s) c = P s c := P_zero (by decide)
theorem P_frameW {x s : List UInt8} (h1 : 0 < x.length) (h2 : x.length ≤ 4096) : P (frameL x ++ s) 0 = ⟨frameL x ++ s, 0, false, []⟩ := by
  have h := hdr x.length (by omega)
  show P (_ :: _ :: (x ++ s)) 0 = _
  rw [P_wait (by rw [h]; omega) (by rw [h]; omega) (.inr rfl)]; rfl
/-- Frames of messages that are not empty, with credit for some of them. -/
theorem P_all : ∀ (l : List (List UInt8)) (c : Nat), (∀ x ∈ l, 0 < x.length ∧ x.length ≤ 4096) →
    P (l.map frameL).flatten (c : Int) = ⟨((l.drop c).map frameL).flatten, ((c - min c l.length : Nat) : Int), false, l.take c⟩
  | [], c, _ => by rw [P_short (by simp)]; simp
  | x :: l, 0, h => by
    rw [List.map_cons, List.flatten_cons]
    rw [show ((0 : Nat) : Int) = 0 from rfl, P_frameW (h x (by simp)).1 (h x (by simp)).2]
    simp
  | x :: l, c + 1, h => by
    rw [List.map_cons, List.flatten_cons, P_frame (h x (by simp)).1 (h x (by simp)).2 (by omega), show ((c + 1 : Nat) : Int) - 1 = (c : Int) by omega, P_all l c (fun y hy => h y (by simp [hy]))]
    simp [Pr.pre]
/-- What the bytes so far deliver, whatever comes behind them. -/
def Gives (W : List UInt8) (want : List (List UInt8)) : Prop := ∀ (s : List UInt8) (c : Int), (want.length : Int) ≤ c → P (W ++ s) c = (P s (c - want.length)).pre want
theorem Gives.nil : Gives [] [] := fun s c _ => by simp [Pr.pre_nil]
theorem Gives.pause {W : List UInt8} {want : List (List UInt8)} (h : Gives W want) : Gives (W ++ [0, 0]) want := fun s c hc => by
  rw [List.append_assoc, h _ c hc]; exact congrArg (Pr.pre want) P_pause
theorem Gives.empty {W x : List UInt8} {want : List (List UInt8)} (h : Gives W want) (hx : ¬ 0 < x.length) : Gives (W ++ frameL x) want := fun s c hc => by
  obtain rfl : x = [] := List.eq_nil_of_length_eq_zero (by omega)
  rw [List.append_assoc, h _ c hc, P_frame0]
theorem Gives.frame {W x : List UInt8} {want : List (List UInt8)} (h : Gives W want) (hx : 0 < x.length) (hx' : x.length ≤ 4096) : Gives (W ++ frameL x) (want ++ [x]) := fun s c hc => by
  rw [List.length_append, List.length_singleton] at hc
  rw [List.append_assoc, h _ c (by omega), P_frame hx hx' (by omega), Pr.pre_pre, List.length_append, List.length_singleton]
  rw [show c - (want.length : Int) - 1 = c - ((want.length + 1 : Nat) : Int) by omega]
theorem Gives.run {W : List UInt8} {want : List (List UInt8)} (h : Gives W want) (hw : want.length ≤ 12) (hW : W.length ≤ 4098) (ps : List (List UInt8)) (hp : ps.flatten = W) :
    runF ⟨[], 20, false⟩ ps = (⟨[], 20 - (want.length : Int), false⟩, want, 0) := by
  have h1 := h [] 20 (by omega)
  rw [List.append_nil, P_short (r := []) (by decide)] at h1
  rw [run_pieces ps ⟨[], 20, false⟩ rfl (by decide) (by decide) (by rw [hp]; show 0 + _ ≤ _; omega) (P_short (by decide)), hp]
  show finR (P W 20) = _
  rw [h1]
  simp [finR, Pr.pre]
theorem fewF_idem (l : List (List UInt8)) : fewF (fewF l) = fewF l := by
  have h1 := fewF_len l
  have h2 := fewF_le l
  show ((fewF l).take 12).map (·.take 40) = fewF l
  rw [List.take_of_length_le h1]
  conv => rhs; rw [← List.map_id (fewF l)]
  exact List.map_congr_left fun x hx => List.take_of_length_le (h2 x hx)
theorem filt_succ (X : List (List UInt8)) (k : Nat) (h : k < X.length) : (X.take (k + 1)).filter (fun x => decide (0 < x.length)) = (X.take k).filter (fun x => decide (0 < x.length)) ++ if 0 < X[k].length then [X[k]] else [] := by
  rw [List.take_succ_eq_append_getElem h, List.filter_append]
  by_cases hx : 0 < X[k].length
  · rw [if_pos hx]; simp [hx]
  · rw [if_neg hx]; simp [hx]
theorem gives_take {X : List (List UInt8)} (h : ∀ x ∈ X, x.length ≤ 4096) : ∀ k, k ≤ X.length → Gives ((X.take k).map frameL).flatten ((X.take k).filter fun x => decide (0 < x.length))
  | 0, _ => by simpa using Gives.nil
  | k + 1, hk => by
    rw [wire_succ X k (by omega), filt_succ X k (by omega)]
    by_cases hx : 0 < X[k].length
    · rw [if_pos hx]; exact (gives_take h k (by omega)).frame hx (h _ (List.getElem_mem _))
    · rw [if_neg hx, List.append_nil]; exact (gives_take h k (by omega)).empty hx
theorem wire_gives (l : List (List UInt8)) : Gives (wireF (fewF l) []) ((fewF l).filter fun x => decide (0 < x.length)) := by
  have h := gives_take (X := fewF l) (fun x hx => by have := fewF_le l x hx; omega) (fewF l).length (Nat.le_refl _)
  rw [List.take_length] at h
  rw [wireF, fewF_idem, List.take_nil, List.append_nil]
  exact h
theorem want_le (l : List (List UInt8)) : ((fewF l).filter fun x => decide (0 < x.length)).length ≤ 12 := Nat.le_trans (List.length_filter_le _ _) (fewF_len l)
theorem feed_big {l : List (List UInt8)} {z : Nat} (_hz : z ≤ 65535) (M : List UInt8) :
    feedF ⟨[], 20, false⟩ (wireF (fewF l) [] ++ [UInt8.ofNat ((4097 + z % 61439) / 256), UInt8.ofNat ((4097 + z % 61439) % 256)] ++ M) =
      (⟨[], 20 - (((fewF l).filter fun x => decide (0 < x.length)).length : Int), true⟩, (fewF l).filter fun x => decide (0 < x.length), 4) := by
  have hw := want_le l
  have hP : P (wireF (fewF l) [] ++ [UInt8.ofNat ((4097 + z % 61439) / 256), UInt8.ofNat ((4097 + z % 61439) % 256)] ++ M) 20 =
      ⟨[], 20 - (((fewF l).filter fun x => decide (0 < x.length)).length : Int), true, (fewF l).filter fun x => decide (0 < x.length)⟩ := by
    rw [List.append_assoc, wire_gives l _ 20 (by omega)]
    show Pr.pre _ (P (_ :: _ :: M) _) = _
    rw [P_big (by simp; omega)]
    simp [Pr.pre]
  have hf : (prF ⟨[], 20, false⟩ (wireF (fewF l) [] ++ [UInt8.ofNat ((4097 + z % 61439) / 256), UInt8.ofNat ((4097 + z % 61439) % 256)] ++ M)) = _ := hP
  rw [feedF_form (by decide) rfl (by rw [hf]), hf]
theorem feed_after {l : List (List UInt8)} (M : List UInt8) : feedF ⟨[], 20 - (((fewF l).filter fun x => decide (0 < x.length)).length : Int), true⟩ M = (⟨[], 20 - (((fewF l).filter fun x => decide (0 < x.length)).length : Int), true⟩, [], 7) := by
  have hw := want_le l
  exact feedF_failed (validB_iff.2 ⟨by simp, by dsimp only; omega, by dsimp only; omega⟩) rfl
theorem wireF_all {F : List (List UInt8)} (h1 : F.length ≤ 12) (h2 : ∀ x ∈ F, x.length ≤ 40) : wireF F [] = (F.map frameL).flatten := by
  have h : fewF F = F := by
    show (F.take 12).map (·.take 40) = F
    rw [List.take_of_length_le h1]
    conv => rhs; rw [← List.map_id F]
    exact List.map_congr_left fun x hx => List.take_of_length_le (h2 x hx)
  rw [wireF, h, List.take_nil, List.append_nil]
theorem frames_le (F : List (List UInt8)) (h2 : ∀ x ∈ F, x.length ≤ 40) : (F.map frameL).flatten.length ≤ 42 * F.length := by
  have := wire_le h2 F.length
  rwa [List.take_length] at this
/-- Frames that have come, or that have waited, and a credit. -/
theorem feed_all {F : List (List UInt8)} (h1 : F.length ≤ 12) (h2 : ∀ x ∈ F, 0 < x.length ∧ x.length ≤ 40) (r b : List UInt8) (hr : r ++ b = (F.map frameL).flatten) (a : Nat) (ha : a ≤ 100) :
    feedF ⟨r, (a : Int), false⟩ b = (⟨((F.drop a).map frameL).flatten, ((a - min a F.length : Nat) : Int), false⟩, F.take a, 0) := by
  have hl := frames_le F fun x hx => (h2 x hx).2
  have hl2 := frames_le (F.drop a) fun x hx => (h2 x (List.mem_of_mem_drop hx)).2
  have hd : (F.drop a).length ≤ 12 := by rw [List.length_drop]; omega
  have hrl : r.length ≤ 42 * F.length := by rw [← hr, List.length_append] at hl; omega
  have hP : prF ⟨r, (a : Int), false⟩ b = _ := (show P (r ++ b) (a : Int) = _ from by rw [hr, P_all F a fun x hx => ⟨(h2 x hx).1, by have := (h2 x hx).2; omega⟩])
  rw [feedF_ok (validB_iff.2 ⟨by dsimp only; omega, by dsimp only; omega, by dsimp only; omega⟩) rfl (by rw [hP]) (by rw [hP]; dsimp only; omega), hP]
theorem credits_slice (F : List (List UInt8)) (a b : Nat) : (F.drop a).take (a - min a F.length + b) = (F.drop (min a F.length)).take (min (a + b) F.length - min a F.length) := by
  rcases Nat.le_total F.length a with h | h
  · rw [List.drop_eq_nil_of_le h, Nat.min_eq_right h, List.drop_length]; simp
  · rw [Nat.min_eq_left h, Nat.sub_self, Nat.zero_add]
    rcases Nat.le_total (a + b) F.length with h2 | h2
    · rw [Nat.min_eq_left h2, Nat.add_sub_cancel_left]
    · rw [Nat.min_eq_right h2, List.take_of_length_le (by rw [List.length_drop]; omega), List.take_of_length_le (by rw [List.length_drop]; omega)]
theorem credits_left (n a b : Nat) : (a - min a n + b) - min (a - min a n + b) (n - a) = a + b - min (a + b) n := by omega
/-- The bytes that wait behind the message: none of them may be taken. -/
def restL (k : Nat) : List UInt8 := if 1 < k then ((List.replicate k 255).set 0 16).set 1 0 else List.replicate k 255
theorem restL_len (k : Nat) : (restL k).length = k := by unfold restL; split <;> simp
theorem restL_P (k : Nat) (hk : k ≤ 4097) : P (restL k) 0 = ⟨restL k, 0, false, []⟩ := by
  by_cases h : 1 < k
  · obtain ⟨k, rfl⟩ : ∃ j, k = j + 2 := ⟨k - 2, by omega⟩
    have e : restL (k + 2) = 16 :: 0 :: List.replicate k 255 := by unfold restL; rw [if_pos h]; rfl
    rw [e]
    exact P_wait (by decide) (by decide) (.inr rfl)
  · exact P_short (by rw [restL_len]; omega)
def zerosL (n : Nat) : List UInt8 := List.replicate n 0
theorem press_first {n : Nat} (h1 : 1 ≤ n) (h2 : n ≤ 4096) : feedF ⟨[], 0, false⟩ (frameL (zerosL n)) = (⟨frameL (zerosL n), 0, false⟩, [], 0) := by
  have hz : (zerosL n).length = n := by simp [zerosL]
  have hP : prF ⟨[], 0, false⟩ (frameL (zerosL n)) = ⟨frameL (zerosL n), 0, false, []⟩ := by
    have := P_frameW (x := zerosL n) (s := []) (by omega) (by omega)
    rwa [List.append_nil] at this
  rw [feedF_ok (by decide) rfl (by rw [hP]) (by rw [hP]; dsimp only; rw [frameL_length]; omega), hP]
theorem press_more {n k : Nat} (h1 : 1 ≤ n) (h2 : n ≤ 4096) (hk : n + 2 + k ≤ 4098) : feedF ⟨frameL (zerosL n), 0, false⟩ (restL k) = (⟨frameL (zerosL n) ++ restL k, 0, false⟩, [], 0) := by
  have hz : (zerosL n).length = n := by simp [zerosL]
  have hP : prF ⟨frameL (zerosL n), 0, false⟩ (restL k) = _ := P_frameW (x := zerosL n) (s := restL k) (by omega) (by omega)
  rw [feedF_ok (validB_iff.2 ⟨by dsimp only; rw [frameL_length]; omega, by dsimp only; omega, by dsimp only; omega⟩) rfl (by rw [hP]) (by rw [hP]; dsimp only; rw [List.length_append, frameL_length, restL_len]; omega), hP]
theorem press_full {n k : Nat} (h1 : 1 ≤ n) (h2 : n ≤ 4096) (hk : 4098 < n + 2 + k) : feedF ⟨frameL (zerosL n), 0, false⟩ (restL k) = (⟨frameL (zerosL n), 0, false⟩, [], 320) := by
  have hz : (zerosL n).length = n := by simp [zerosL]
  have hP : prF ⟨frameL (zerosL n), 0, false⟩ (restL k) = _ := P_frameW (x := zerosL n) (s := restL k) (by omega) (by omega)
  exact feedF_full (validB_iff.2 ⟨by dsimp only; rw [frameL_length]; omega, by dsimp only; omega, by dsimp only; omega⟩) rfl (by rw [hP]) (by rw [hP]; dsimp only; rw [List.length_append, frameL_length, restL_len]; omega)
theorem press_go {n k : Nat} (h1 : 1 ≤ n) (h2 : n ≤ 4096) (hk : k ≤ 4097) : feedF ⟨frameL (zerosL n), 1, false⟩ (restL k) = (⟨restL k, 0, false⟩, [zerosL n], 0) := by
  have hz : (zerosL n).length = n := by simp [zerosL]
  have hP : prF ⟨frameL (zerosL n), 1, false⟩ (restL k) = _ := (show P (frameL (zerosL n) ++ restL k) 1 = _ from by
    rw [P_frame (by omega) (by omega) (by decide), show (1 : Int) - 1 = 0 from rfl, restL_P k hk])
  rw [feedF_ok (validB_iff.2 ⟨by dsimp only; rw [frameL_length]; omega, by dsimp only; omega, by dsimp only; omega⟩) rfl (by rw [hP]; rfl) (by rw [hP]; show ¬ 4098 < (restL k).length; rw [restL_len]; omega), hP]
  rfl
theorem rest_step (n k : Nat) (a b : Value) (h : k < n) : (List.replicate k a ++ List.replicate (n - k) b).set k a = List.replicate (k + 1) a ++ List.replicate (n - (k + 1)) b := by
  rw [List.set_append_right _ _ (by simp), List.length_replicate, Nat.sub_self]
  obtain ⟨j, hj⟩ : ∃ j, n - k = j + 1 := ⟨n - k - 1, by omega⟩
  rw [hj, show n - (k + 1) = j by omega, List.replicate_succ, List.set_cons_zero, List.replicate_succ', List.append_assoc]
  rfl
theorem rest_small {k : Nat} (h : ¬ 1 < k) : List.replicate k (Value.int .u8 255) ++ List.replicate (k - k) (Value.int .u8 0) = (restL k).map byteV := by
  unfold restL
  rw [if_neg h, Nat.sub_self, List.map_replicate]
  simp [byteV]
theorem rest_big {k : Nat} (h : 1 < k) : ((List.replicate k (Value.int .u8 255) ++ List.replicate (k - k) (Value.int .u8 0)).set 0 (Value.int .u8 16)).set 1 (Value.int .u8 0) = (restL k).map byteV := by
  unfold restL
  rw [if_pos h, Nat.sub_self, List.map_set, List.map_set, List.map_replicate]
  simp [byteV]
end Go.Proofs.Ytacchhkefnokdaa
