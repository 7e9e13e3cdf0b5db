/- Package regex: parsing the canonical text of a tree gives the tree's nodes; what is parsed is a tree's nodes. -/
import Derived.Test.YtkmgbcjfidpmgaaGreatDoorText
namespace Go.Proofs.YtkmgbcjfidpmgaaGreatDoor
open Go Go.Ex

theorem memb_iff (c : List Nat) (z : UInt8) : z ∈ membF c ↔ hasF c z = true := by
  unfold membF
  rw [List.mem_filter]
  refine ⟨fun h => h.2, fun h => ⟨?_, h⟩⟩
  have := z.toNat_lt
  exact List.mem_map.2 ⟨z.toNat, List.mem_range.2 (by omega), by simp⟩
theorem all_asc : Asc ((List.range 256).map UInt8.ofNat) := by unfold Asc; decide +kernel
theorem memb_asc (c : List Nat) : Asc (membF c) := all_asc.sublist List.filter_sublist
theorem memb_le (c : List Nat) : (membF c).length ≤ 256 := by
  have := List.length_filter_le (hasF c) ((List.range 256).map UInt8.ofNat)
  rw [List.length_map, List.length_range] at this
  exact this
theorem memb_all {c : List Nat} (h : (membF c).length = 256) (z : UInt8) : hasF c z = true := by
  have h1 : (((List.range 256).map UInt8.ofNat).filter (hasF c)).length = ((List.range 256).map UInt8.ofNat).length := by
    rw [List.length_map, List.length_range]; exact h
  have h2 := List.length_filter_eq_length_iff.1 h1
  have := z.toNat_lt
  exact h2 z (List.mem_map.2 ⟨z.toNat, List.mem_range.2 (by omega), by simp⟩)

/-! ### heads -/
theorem noHd_cons {bs : List UInt8} {x : UInt8} {l : List UInt8} (h : x ∉ bs) : noHd bs (x :: l) := by
  intro y t e; injection e with e1 _; rw [← e1]; exact h
theorem noHd_sub {bs cs : List UInt8} {l : List UInt8} (h : noHd cs l) (hs : ∀ b ∈ bs, b ∈ cs) : noHd bs l := fun x t e hm => h x t e (hs x hm)
def hdL : List UInt8 := [41, 124, 38, 42, 43, 63, 123]
theorem classT_hd (m rest : List UInt8) : noHd (126 :: hdL) (classT m ++ rest) := by
  unfold classT
  split
  · exact noHd_sub (charT_hd _ _) (by decide)
  · split
    · exact noHd_cons (by decide)
    · exact noHd_cons (by decide)
theorem par_hd {k r : Nat} {t rest : List UInt8} {bs : List UInt8} (hb : (40 : UInt8) ∉ bs) (h : ∀ rest, noHd bs (t ++ rest)) : noHd bs (par k r t ++ rest) := by
  unfold par; split
  · exact noHd_cons hb
  · exact h rest
theorem txt_hd : ∀ (t : Rg) (rest : List UInt8), noHd hdL (txt t ++ rest)
  | .none, _ => noHd_cons (by decide)
  | .eps, _ => noHd_cons (by decide)
  | .cls c, rest => noHd_sub (classT_hd _ rest) (by decide)
  | .cat a b, rest => by rw [txt, List.append_assoc]; exact par_hd (by decide) (txt_hd a)
  | .alt a b, rest => by rw [txt, List.append_assoc]; exact txt_hd a _
  | .and a b, rest => by rw [txt, List.append_assoc]; exact par_hd (by decide) (txt_hd a)
  | .not a, rest => noHd_cons (by decide)
  | .rep mn mx a, rest => by rw [txt, List.append_assoc]; exact par_hd (by decide) (txt_hd a)
theorem rank_le (t : Rg) : rank t ≤ 4 := by cases t <;> simp [rank]
theorem txt_hd4 : ∀ (t : Rg) (rest : List UInt8), rank t = 4 → noHd [126] (txt t ++ rest)
  | .none, _, _ => noHd_cons (by decide)
  | .eps, _, _ => noHd_cons (by decide)
  | .cls c, rest, _ => noHd_sub (classT_hd _ rest) (by decide)
  | .cat a b, rest, h => by simp [rank] at h
  | .alt a b, rest, h => by simp [rank] at h
  | .and a b, rest, h => by simp [rank] at h
  | .not a, rest, h => by simp [rank] at h
  | .rep mn mx a, rest, _ => by
    rw [txt, List.append_assoc]
    unfold par; split
    · exact noHd_cons (by decide)
    · exact txt_hd4 a _ (by have := rank_le a; omega)
theorem classT_pos (m : List UInt8) : 0 < (classT m).length := by
  unfold classT
  split
  · exact charT_pos _
  · split <;> simp
theorem par_pos {k r : Nat} {t : List UInt8} (h : 0 < t.length) : 0 < (par k r t).length := by
  unfold par; split
  · simp
  · exact h
theorem txt_pos : ∀ t : Rg, 0 < (txt t).length
  | .none => by simp [txt]
  | .eps => by simp [txt]
  | .cls c => classT_pos _
  | .cat a b => by rw [txt, List.length_append]; have := par_pos (k := 2) (r := rank a) (txt_pos a); omega
  | .alt a b => by rw [txt, List.length_append]; have := txt_pos a; omega
  | .and a b => by rw [txt, List.length_append]; have := par_pos (k := 1) (r := rank a) (txt_pos a); omega
  | .not a => by simp [txt]
  | .rep mn mx a => by rw [txt, List.length_append]; have := par_pos (k := 4) (r := rank a) (txt_pos a); omega

/-! ### numbers and bounds -/
theorem digs1 {d x : UInt8} {rest : List UInt8} (h : d ≠ 48) (hd : isDig d = true) (hx : isDig x = false) : digsF (d :: x :: rest) = [d] := by
  rw [digsF, if_neg h, List.takeWhile_cons_of_pos hd, List.takeWhile_cons_of_neg (by simp [hx])]
theorem digs2 {d e x : UInt8} {rest : List UInt8} (h : d ≠ 48) (hd : isDig d = true) (he : isDig e = true) (hx : isDig x = false) : digsF (d :: e :: x :: rest) = [d, e] := by
  rw [digsF, if_neg h, List.takeWhile_cons_of_pos hd, List.takeWhile_cons_of_pos he, List.takeWhile_cons_of_neg (by simp [hx])]
theorem num_text {s rest : List UInt8} {p n : Nat} {x : UInt8} (hn : n ≤ 16) (hx : isDig x = false) (h : s.drop p = digT n ++ x :: rest) : numP s p = .ok (n, p + (digT n).length) := by
  have hd : digsF (s.drop p) = digT n ∧ valF (digT n) = n ∧ ((digT n).length = 1 ∨ (digT n).length = 2) := by
    rw [h]
    have hc : n = 0 ∨ n = 1 ∨ n = 2 ∨ n = 3 ∨ n = 4 ∨ n = 5 ∨ n = 6 ∨ n = 7 ∨ n = 8 ∨ n = 9 ∨ n = 10 ∨ n = 11 ∨ n = 12 ∨ n = 13 ∨ n = 14 ∨ n = 15 ∨ n = 16 := by omega
    rcases hc with rfl | rfl | rfl | rfl | rfl | rfl | rfl | rfl | rfl | rfl | rfl | rfl | rfl | rfl | rfl | rfl | rfl
    · exact ⟨rfl, rfl, .inl rfl⟩
    all_goals first
      | exact ⟨digs1 (by decide) (by decide) hx, rfl, .inl rfl⟩
      | exact ⟨digs2 (by decide) (by decide) (by decide) hx, rfl, .inr rfl⟩
  unfold numP
  rw [hd.1, hd.2.1, if_neg (by omega), if_neg (by omega), if_neg (by omega)]
theorem suf_none {s l : List UInt8} {p : Nat} (h : s.drop p = l) (hn : noHd [42, 43, 63, 123] l) : sufP s p = .ok none := by
  unfold sufP
  rw [if_neg (by rw [isB_no h hn (by decide)]; simp), if_neg (by rw [isB_no h hn (by decide)]; simp), if_neg (by rw [isB_no h hn (by decide)]; simp), if_neg (by rw [isB_no h hn (by decide)]; simp)]
theorem suf_text {s rest : List UInt8} {p : Nat} {mn mx : Int} (h0 : 0 ≤ mn) (h1 : mn ≤ 16) (h2 : mx ≤ 16) (h3 : mx = -1 ∨ mn ≤ mx) (h : s.drop p = sufT mn mx ++ rest) : sufP s p = .ok (some (mn, mx, p + (sufT mn mx).length)) := by
  have hmn : ((mn.toNat : Nat) : Int) = mn := Int.toNat_of_nonneg h0
  unfold sufT at h ⊢
  unfold sufP
  split at h
  · rename_i e; obtain ⟨rfl, rfl⟩ := e
    rw [if_pos (by rw [isB_cons h]; rfl)]; rfl
  · rename_i e1
    rw [if_neg e1]
    split at h
    · rename_i e; obtain ⟨rfl, rfl⟩ := e
      rw [if_neg (by rw [isB_cons h]; decide), if_pos (by rw [isB_cons h]; rfl)]; rfl
    · rename_i e2
      rw [if_neg e2]
      split at h
      · rename_i e; obtain ⟨rfl, rfl⟩ := e
        rw [if_neg (by rw [isB_cons h]; decide), if_neg (by rw [isB_cons h]; decide), if_pos (by rw [isB_cons h]; rfl)]; rfl
      · rename_i e3
        rw [if_neg e3]
        split at h
        · rename_i e4
          rw [if_pos e4]
          rw [if_neg (by rw [isB_cons h]; decide), if_neg (by rw [isB_cons h]; decide), if_neg (by rw [isB_cons h]; decide), if_pos (by rw [isB_cons h]; rfl)]
          obtain ⟨_, d1, _⟩ := at_cons h
          have d1' : s.drop (p + 1) = digT mn.toNat ++ 44 :: (125 :: rest) := by rw [d1]; simp
          have n1 := num_text (by omega) (by decide) d1'
          have d2 := adv d1'
          obtain ⟨_, d3, _⟩ := at_cons d2
          unfold boundsP
          rw [n1]; dsimp only
          unfold expP
          rw [if_pos (by rw [isB_cons d2]; rfl)]; dsimp only
          rw [if_pos (by rw [isB_cons d3]; rfl)]; dsimp only
          rw [hmn, e4]; simp only [List.length_cons, List.length_append, List.length_nil, Except.ok.injEq, Option.some.injEq, Prod.mk.injEq, true_and]
          omega
        · rename_i e4
          rw [if_neg e4]
          have hmx : ((mx.toNat : Nat) : Int) = mx := Int.toNat_of_nonneg (by omega)
          rw [if_neg (by rw [isB_cons h]; decide), if_neg (by rw [isB_cons h]; decide), if_neg (by rw [isB_cons h]; decide), if_pos (by rw [isB_cons h]; rfl)]
          obtain ⟨_, d1, _⟩ := at_cons h
          have d1' : s.drop (p + 1) = digT mn.toNat ++ 44 :: (digT mx.toNat ++ 125 :: rest) := by rw [d1]; simp
          have n1 := num_text (by omega) (by decide) d1'
          have d2 := adv d1'
          obtain ⟨_, d3, _⟩ := at_cons d2
          have n2 := num_text (by omega) (by decide) d3
          have d4 := adv d3
          have hd : noHd [125] (digT mx.toNat ++ 125 :: rest) := by
            unfold digT; split
            · refine noHd_cons ?_
              simp only [List.mem_singleton]; intro e
              have := congrArg UInt8.toNat e
              rw [UInt8.toNat_ofNat'] at this
              have h6 : (125 : UInt8).toNat = 125 := rfl
              omega
            · refine noHd_cons ?_
              simp only [List.mem_singleton]; intro e
              have := congrArg UInt8.toNat e
              rw [UInt8.toNat_ofNat'] at this
              have h6 : (125 : UInt8).toNat = 125 := rfl
              omega
          unfold boundsP
          rw [n1]; dsimp only
          unfold expP
          rw [if_pos (by rw [isB_cons d2]; rfl)]; dsimp only
          rw [if_neg (by rw [isB_no d3 hd (by decide)]; simp), n2]; dsimp only
          rw [if_neg (by omega), if_pos (by rw [isB_cons d4]; rfl)]; dsimp only
          rw [hmn, hmx]; simp only [List.length_cons, List.length_append, List.length_nil, Except.ok.injEq, Option.some.injEq, Prod.mk.injEq, true_and]
          omega

/-! ### trees -/
def Ev (F : Nat → PRes) (r : Except Er (Int × PS)) : Prop := ∃ f0, ∀ f, f0 ≤ f → F f = some r
def idx (st : PS) (t : Rg) : Int := ((st.nodes.length + sizeT t : Nat) : Int) - 1
def aft (st : PS) (n : Nat) (t : Rg) : PS := ⟨st.p + n, st.nodes ++ nodesT st.nodes.length t⟩
theorem aft_p (st : PS) (n : Nat) (t : Rg) : (aft st n t).p = st.p + n := rfl
theorem aft_len (st : PS) (n : Nat) (t : Rg) : (aft st n t).nodes.length = st.nodes.length + sizeT t := by simp [aft, nodesT_len]
def stopC (l : List UInt8) : Prop := ∀ x t, l = x :: t → x ∈ ([124, 38, 41] : List UInt8)
def stopA (l : List UInt8) : Prop := ∀ x t, l = x :: t → x ∈ ([124, 41] : List UInt8)
theorem stopA.toC {l : List UInt8} (h : stopA l) : stopC l := fun x t e => (by decide : ∀ b ∈ ([124, 41] : List UInt8), b ∈ ([124, 38, 41] : List UInt8)) x (h x t e)
theorem stopC.suf {l : List UInt8} (h : stopC l) : noHd [42, 43, 63, 123] l := fun x t e hm => by
  have := h x t e
  simp at this hm
  rcases this with rfl | rfl | rfl <;> simp at hm
theorem stop_yes {s l : List UInt8} {p : Nat} (h : s.drop p = l) (hs : stopC l) : stopB s p = true := by
  unfold stopB
  cases l with
  | nil => have := (at_nil h).2; simp [this]
  | cons x t =>
    have := hs x t rfl
    rw [isB_cons h, isB_cons h, isB_cons h]
    simp at this ⊢
    rcases this with h1 | h1 | h1
    · exact .inl (.inl (.inr h1))
    · exact .inl (.inr h1)
    · exact .inr h1
theorem stop_no {s l : List UInt8} {p : Nat} (h : s.drop p = l) (hl : l ≠ []) (hs : noHd hdL l) : stopB s p = false := by
  unfold stopB
  cases l with
  | nil => exact absurd rfl hl
  | cons x t =>
    have hlt := (at_cons h).2.2
    rw [isB_no h hs (by decide), isB_no h hs (by decide), isB_no h hs (by decide)]
    simp; omega
/-- What parsing the text of t does, at each level. -/
structure Cl (t : Rg) : Prop where
  suf : rank t = 4 → ∀ s st rest r, s.drop st.p = txt t ++ rest → Ev (fun f => itemL s f (idx st t) (aft st (txt t).length t)) r → Ev (fun f => itemF s f st) r
  item : 3 ≤ rank t → ∀ s st rest, s.drop st.p = txt t ++ rest → noHd [42, 43, 63, 123] rest → Ev (fun f => itemF s f st) (.ok (idx st t, aft st (txt t).length t))
  cat : 2 ≤ rank t → ∀ s st rest r, s.drop st.p = txt t ++ rest → noHd [42, 43, 63, 123] rest → Ev (fun f => catL s f (idx st t) (aft st (txt t).length t)) r → Ev (fun f => catF s f st) r
  and : 1 ≤ rank t → ∀ s st rest r, s.drop st.p = txt t ++ rest → stopC rest → Ev (fun f => andL s f (idx st t) (aft st (txt t).length t)) r → Ev (fun f => andF s f st) r
  alt : ∀ s st rest r, s.drop st.p = txt t ++ rest → stopA rest → Ev (fun f => altL s f (idx st t) (aft st (txt t).length t)) r → Ev (fun f => altF s f st) r
theorem Ev.succ {F G : Nat → PRes} {q r : Except Er (Int × PS)} (h : Ev G q) (hF : ∀ f, G f = some q → F (f + 1) = some r) : Ev F r := by
  obtain ⟨f0, h0⟩ := h
  refine ⟨f0 + 1, fun f hf => ?_⟩
  obtain ⟨g, rfl⟩ : ∃ k, f = k + 1 := ⟨f - 1, by omega⟩
  exact hF g (h0 g (by omega))
theorem Ev.two {F G K : Nat → PRes} {q r : Except Er (Int × PS)} (h : Ev G q) (hk : Ev K r) (hF : ∀ f, G f = some q → K f = some r → F (f + 1) = some r) : Ev F r := by
  obtain ⟨f0, h0⟩ := h
  obtain ⟨f1, h1⟩ := hk
  refine ⟨f0 + f1 + 1, fun f hf => ?_⟩
  obtain ⟨g, rfl⟩ : ∃ k, f = k + 1 := ⟨f - 1, by omega⟩
  exact hF g (h0 g (by omega)) (h1 g (by omega))
theorem Ev.now {F : Nat → PRes} {r : Except Er (Int × PS)} (h : ∀ f, F (f + 1) = some r) : Ev F r := ⟨1, fun f hf => by
  obtain ⟨g, rfl⟩ : ∃ k, f = k + 1 := ⟨f - 1, by omega⟩
  exact h g⟩
/-- The loops end where nothing of theirs follows. -/
theorem itemL_end {s l : List UInt8} {x : Int} {st : PS} (h : s.drop st.p = l) (hn : noHd [42, 43, 63, 123] l) : Ev (fun f => itemL s f x st) (.ok (x, st)) := .now fun f => by rw [itemL, suf_none h hn]
theorem catL_end {s l : List UInt8} {x : Int} {st : PS} (h : s.drop st.p = l) (hn : stopC l) : Ev (fun f => catL s f x st) (.ok (x, st)) := .now fun f => by rw [catL, if_pos (stop_yes h hn)]
theorem andL_end {s l : List UInt8} {x : Int} {st : PS} (h : s.drop st.p = l) (hn : noHd [38] l) : Ev (fun f => andL s f x st) (.ok (x, st)) := .now fun f => by rw [andL, if_neg (by rw [isB_no h hn (by decide)]; simp)]
theorem altL_end {s l : List UInt8} {x : Int} {st : PS} (h : s.drop st.p = l) (hn : noHd [124] l) : Ev (fun f => altL s f x st) (.ok (x, st)) := .now fun f => by rw [altL, if_neg (by rw [isB_no h hn (by decide)]; simp)]
theorem stopA.noAnd {l : List UInt8} (h : stopA l) : noHd [38] l := fun x t e hm => by
  have := h x t e
  simp at this hm
  rcases this with rfl | rfl <;> simp at hm
/-- From a level to the next. -/
theorem item_of_atom {s : List UInt8} {st st1 : PS} {x : Int} {r : Except Er (Int × PS)} (h0 : isB s st.p 126 = false) (ha : Ev (fun f => atomF s f st) (.ok (x, st1))) (hr : Ev (fun f => itemL s f x st1) r) : Ev (fun f => itemF s f st) r :=
  ha.two hr fun f h1 h2 => by rw [itemF, if_neg (by rw [h0]; simp), h1]; exact h2
theorem cat_of_item {s : List UInt8} {st st1 : PS} {x : Int} {r : Except Er (Int × PS)} (ha : Ev (fun f => itemF s f st) (.ok (x, st1))) (hr : Ev (fun f => catL s f x st1) r) : Ev (fun f => catF s f st) r := ha.two hr fun f h1 h2 => by rw [catF, h1]; exact h2
theorem and_of_cat {s : List UInt8} {st st1 : PS} {x : Int} {r : Except Er (Int × PS)} (ha : Ev (fun f => catF s f st) (.ok (x, st1))) (hr : Ev (fun f => andL s f x st1) r) : Ev (fun f => andF s f st) r := ha.two hr fun f h1 h2 => by rw [andF, h1]; exact h2
theorem alt_of_and {s : List UInt8} {st st1 : PS} {x : Int} {r : Except Er (Int × PS)} (ha : Ev (fun f => andF s f st) (.ok (x, st1))) (hr : Ev (fun f => altL s f x st1) r) : Ev (fun f => altF s f st) r := ha.two hr fun f h1 h2 => by rw [altF, h1]; exact h2
/-- What holds of items holds above. -/
theorem Cl.ofItem {t : Rg} (hs : rank t = 4 → ∀ s st rest r, s.drop st.p = txt t ++ rest → Ev (fun f => itemL s f (idx st t) (aft st (txt t).length t)) r → Ev (fun f => itemF s f st) r) (h3 : 3 ≤ rank t)
    (hi : ∀ s st rest, s.drop st.p = txt t ++ rest → noHd [42, 43, 63, 123] rest → Ev (fun f => itemF s f st) (.ok (idx st t, aft st (txt t).length t))) : Cl t := by
  have hc : ∀ s st rest r, s.drop st.p = txt t ++ rest → noHd [42, 43, 63, 123] rest → Ev (fun f => catL s f (idx st t) (aft st (txt t).length t)) r → Ev (fun f => catF s f st) r := fun s st rest r h hn hr => cat_of_item (hi s st rest h hn) hr
  have ha : ∀ s st rest r, s.drop st.p = txt t ++ rest → stopC rest → Ev (fun f => andL s f (idx st t) (aft st (txt t).length t)) r → Ev (fun f => andF s f st) r := fun s st rest r h hn hr => and_of_cat (hc s st rest _ h hn.suf (catL_end (by rw [aft_p]; exact adv h) hn)) hr
  exact ⟨hs, fun _ => hi, fun _ => hc, fun _ => ha, fun s st rest r h hn hr => alt_of_and (ha s st rest _ h hn.toC (andL_end (by rw [aft_p]; exact adv h) hn.noAnd)) hr⟩
/-- A tree in parentheses is an atom. -/
theorem par_atom {t : Rg} (h : Cl t) {s rest : List UInt8} {st : PS} (hd : s.drop st.p = 40 :: (txt t ++ 41 :: rest)) : Ev (fun f => atomF s f st) (.ok (idx st t, aft st ((txt t).length + 2) t)) := by
  obtain ⟨_, d1, _⟩ := at_cons hd
  have d2 := adv d1
  have ha : Ev (fun f => altF s f (st.at (st.p + 1))) (.ok (idx st t, aft (st.at (st.p + 1)) (txt t).length t)) :=
    h.alt s (st.at (st.p + 1)) (41 :: rest) _ d1 (fun x u e => by injection e with e1 _; rw [← e1]; decide) (altL_end (x := idx st t) (by rw [aft_p]; exact d2) (noHd_cons (by decide)))
  refine ha.succ fun f h1 => ?_
  have n41 : isB s (st.p + 1) 41 = false := isB_no d1 (txt_hd t _) (by decide)
  have e : expP s (st.p + 1 + (txt t).length) 41 = .ok (st.p + 1 + (txt t).length + 1) := by unfold expP; rw [if_pos (by rw [isB_cons d2]; rfl)]
  rw [atomF, if_neg (by rw [isB_cons hd]; decide), if_neg (by rw [isB_cons hd]; decide), if_neg (by rw [isB_cons hd]; decide), if_pos (by rw [isB_cons hd]; rfl), if_neg (by rw [n41]; simp), h1]
  simp only [aft_p, at_p, e]
  congr 3
  unfold aft PS.at; congr 1; omega
theorem head40 {s l : List UInt8} {p : Nat} (h : s.drop p = 40 :: l) : isB s p 126 = false := by rw [isB_cons h]; rfl
theorem par_suf {t : Rg} (h : Cl t) {s rest : List UInt8} {st : PS} {r : Except Er (Int × PS)} (hd : s.drop st.p = par 4 (rank t) (txt t) ++ rest) (hr : Ev (fun f => itemL s f (idx st t) (aft st (par 4 (rank t) (txt t)).length t)) r) : Ev (fun f => itemF s f st) r := by
  unfold par at hd hr
  split at hd
  · rename_i h4
    rw [if_pos h4] at hr
    have hd' : s.drop st.p = 40 :: (txt t ++ 41 :: rest) := by rw [hd]; simp
    refine item_of_atom (head40 hd') (par_atom h hd') ?_
    simpa using hr
  · rename_i h4
    rw [if_neg h4] at hr
    exact h.suf (by have := rank_le t; omega) s st rest r hd hr
theorem par_item {t : Rg} (h : Cl t) {k : Nat} (hk : 3 ≤ k) (hk2 : k ≤ 3) {s rest : List UInt8} {st : PS} (hd : s.drop st.p = par k (rank t) (txt t) ++ rest) (hn : noHd [42, 43, 63, 123] rest) : Ev (fun f => itemF s f st) (.ok (idx st t, aft st (par k (rank t) (txt t)).length t)) := by
  unfold par at hd ⊢
  split at hd
  · rename_i h4
    rw [if_pos h4]
    have hd' : s.drop st.p = 40 :: (txt t ++ 41 :: rest) := by rw [hd]; simp
    have hl : (40 :: (txt t ++ [41])).length = (txt t).length + 2 := by simp
    rw [hl]
    have hadv := adv (t := 40 :: (txt t ++ [41])) (rest := rest) (by rw [hd])
    rw [hl] at hadv
    exact item_of_atom (head40 hd') (par_atom h hd') (itemL_end (by rw [aft_p]; exact hadv) hn)
  · rename_i h4
    rw [if_neg h4]
    exact h.item (by omega) s st rest hd hn
theorem par_cat {t : Rg} (h : Cl t) {k : Nat} (hk : 2 ≤ k) (hk2 : k ≤ 3) {s rest : List UInt8} {st : PS} {r : Except Er (Int × PS)} (hd : s.drop st.p = par k (rank t) (txt t) ++ rest) (hn : noHd [42, 43, 63, 123] rest) (hr : Ev (fun f => catL s f (idx st t) (aft st (par k (rank t) (txt t)).length t)) r) : Ev (fun f => catF s f st) r := by
  unfold par at hd hr
  split at hd
  · rename_i h4
    rw [if_pos h4] at hr
    have hd' : s.drop st.p = 40 :: (txt t ++ 41 :: rest) := by rw [hd]; simp
    have hl : (40 :: (txt t ++ [41])).length = (txt t).length + 2 := by simp
    have hadv := adv (t := 40 :: (txt t ++ [41])) (rest := rest) (by rw [hd])
    rw [hl] at hr hadv
    exact cat_of_item (item_of_atom (head40 hd') (par_atom h hd') (itemL_end (by rw [aft_p]; exact hadv) hn)) hr
  · rename_i h4
    rw [if_neg h4] at hr
    exact h.cat (by omega) s st rest r hd hn hr
theorem par_and {t : Rg} (h : Cl t) {s rest : List UInt8} {st : PS} {r : Except Er (Int × PS)} (hd : s.drop st.p = par 1 (rank t) (txt t) ++ rest) (hn : stopC rest) (hr : Ev (fun f => andL s f (idx st t) (aft st (par 1 (rank t) (txt t)).length t)) r) : Ev (fun f => andF s f st) r := by
  unfold par at hd hr
  split at hd
  · rename_i h4
    rw [if_pos h4] at hr
    have hd' : s.drop st.p = 40 :: (txt t ++ 41 :: rest) := by rw [hd]; simp
    have hl : (40 :: (txt t ++ [41])).length = (txt t).length + 2 := by simp
    have hadv := adv (t := 40 :: (txt t ++ [41])) (rest := rest) (by rw [hd])
    rw [hl] at hr hadv
    exact and_of_cat (cat_of_item (item_of_atom (head40 hd') (par_atom h hd') (itemL_end (by rw [aft_p]; exact hadv) hn.suf)) (catL_end (by rw [aft_p]; exact hadv) hn)) hr
  · rename_i h4
    rw [if_neg h4] at hr
    exact h.and (by omega) s st rest r hd hn hr
/-- Two operands, one behind the other. -/
theorem aft_bin (k : Int) (st : PS) (n m : Nat) (a b : Rg) : (aft (aft st n a) m b).emit (binN k (idx st a) (idx (aft st n a) b)) =
    ⟨st.p + n + m, st.nodes ++ (nodesT st.nodes.length a ++ nodesT (st.nodes.length + sizeT a) b ++ [binN k ((st.nodes.length + sizeT a : Nat) - 1) ((st.nodes.length + sizeT a + sizeT b : Nat) - 1)])⟩ := by
  unfold PS.emit idx
  rw [aft_len]
  simp [aft, nodesT_len, List.append_assoc]
theorem last_bin (st : PS) (n m : Nat) (a b : Rg) : (aft (aft st n a) m b).last = ((st.nodes.length + (sizeT a + sizeT b + 1) : Nat) : Int) - 1 := by
  unfold PS.last; rw [aft_len, aft_len]; push_cast; omega
theorem par_hdL (k : Nat) (t : Rg) (rest : List UInt8) : noHd hdL (par k (rank t) (txt t) ++ rest) := par_hd (by decide) (txt_hd t)
theorem par_ne (k : Nat) (t : Rg) (rest : List UInt8) : par k (rank t) (txt t) ++ rest ≠ [] := by
  have := par_pos (k := k) (r := rank t) (txt_pos t)
  intro h; have h2 := congrArg List.length h; rw [List.length_append, List.length_nil] at h2; omega
theorem cl_cat {a b : Rg} (ha : Cl a) (hb : Cl b) : Cl (.cat a b) := by
  have hc : ∀ s st rest r, s.drop st.p = txt (.cat a b) ++ rest → noHd [42, 43, 63, 123] rest → Ev (fun f => catL s f (idx st (.cat a b)) (aft st (txt (.cat a b)).length (.cat a b))) r → Ev (fun f => catF s f st) r := by
    intro s st rest r h hn hr
    rw [txt, List.append_assoc] at h
    refine par_cat ha (Nat.le_refl 2) (by omega) h (noHd_sub (par_hdL 3 b rest) (by decide)) ?_
    have d1 := adv h
    refine (par_item hb (Nat.le_refl 3) (Nat.le_refl 3) (st := aft st (par 2 (rank a) (txt a)).length a) (by rw [aft_p]; exact d1) hn).two hr fun f h1 h2 => ?_
    rw [catL, if_neg (by rw [aft_p, stop_no d1 (par_ne 3 b rest) (par_hdL 3 b rest)]; simp), h1]
    dsimp only
    rw [aft_bin, last_bin, ← h2]
    unfold aft idx
    rw [txt, List.length_append]
    congr 1
    simp [nodesT, Nat.add_assoc]
  have hn : ∀ s st rest r, s.drop st.p = txt (.cat a b) ++ rest → stopC rest → Ev (fun f => andL s f (idx st (.cat a b)) (aft st (txt (.cat a b)).length (.cat a b))) r → Ev (fun f => andF s f st) r := fun s st rest r h hs hr => and_of_cat (hc s st rest _ h hs.suf (catL_end (by rw [aft_p]; exact adv h) hs)) hr
  exact ⟨fun h => by simp [rank] at h, fun h => by simp [rank] at h, fun _ => hc, fun _ => hn, fun s st rest r h hs hr => alt_of_and (hn s st rest _ h hs.toC (andL_end (by rw [aft_p]; exact adv h) hs.noAnd)) hr⟩
theorem cl_and {a b : Rg} (ha : Cl a) (hb : Cl b) : Cl (.and a b) := by
  have hn : ∀ s st rest r, s.drop st.p = txt (.and a b) ++ rest → stopC rest → Ev (fun f => andL s f (idx st (.and a b)) (aft st (txt (.and a b)).length (.and a b))) r → Ev (fun f => andF s f st) r := by
    intro s st rest r h hs hr
    rw [txt, List.append_assoc, List.cons_append] at h
    refine par_and ha h (fun x u e => by injection e with e1 _; rw [← e1]; decide) ?_
    have d1 := adv h
    obtain ⟨_, d2, _⟩ := at_cons d1
    have d3 := adv d2
    have hcat : Ev (fun f => catF s f ((aft st (par 1 (rank a) (txt a)).length a).at (st.p + (par 1 (rank a) (txt a)).length + 1))) (.ok (idx (aft st (par 1 (rank a) (txt a)).length a) b, aft (aft st ((par 1 (rank a) (txt a)).length + 1) a) (par 2 (rank b) (txt b)).length b)) :=
      par_cat hb (Nat.le_refl 2) (by omega) (st := (aft st (par 1 (rank a) (txt a)).length a).at (st.p + (par 1 (rank a) (txt a)).length + 1)) d2 hs.suf (catL_end (x := idx (aft st (par 1 (rank a) (txt a)).length a) b) (st := aft (aft st ((par 1 (rank a) (txt a)).length + 1) a) (par 2 (rank b) (txt b)).length b) (by rw [aft_p, aft_p, ← Nat.add_assoc]; exact d3) hs)
    refine hcat.two hr fun f h1 h2 => ?_
    rw [andL, if_pos (by rw [aft_p, isB_cons d1]; rfl), aft_p, h1]
    dsimp only
    have e : (aft (aft st ((par 1 (rank a) (txt a)).length + 1) a) (par 2 (rank b) (txt b)).length b).emit (binN 6 (idx st a) (idx (aft st (par 1 (rank a) (txt a)).length a) b)) = aft st (txt (.and a b)).length (.and a b) := by
      have := aft_bin 6 st ((par 1 (rank a) (txt a)).length + 1) (par 2 (rank b) (txt b)).length a b
      have e2 : idx (aft st ((par 1 (rank a) (txt a)).length + 1) a) b = idx (aft st (par 1 (rank a) (txt a)).length a) b := rfl
      rw [e2] at this
      rw [this]; unfold aft; rw [txt, List.length_append, List.length_cons]
      congr 1; omega
    rw [e, last_bin]
    exact h2
  exact ⟨fun h => by simp [rank] at h, fun h => by simp [rank] at h, fun h => by simp [rank] at h, fun _ => hn, fun s st rest r h hs hr => alt_of_and (hn s st rest _ h hs.toC (andL_end (by rw [aft_p]; exact adv h) hs.noAnd)) hr⟩
theorem cl_alt {a b : Rg} (ha : Cl a) (hb : Cl b) : Cl (.alt a b) := by
  have hn : ∀ s st rest r, s.drop st.p = txt (.alt a b) ++ rest → stopA rest → Ev (fun f => altL s f (idx st (.alt a b)) (aft st (txt (.alt a b)).length (.alt a b))) r → Ev (fun f => altF s f st) r := by
    intro s st rest r h hs hr
    rw [txt, List.append_assoc, List.cons_append] at h
    refine ha.alt s st _ r h (fun x u e => by injection e with e1 _; rw [← e1]; decide) ?_
    have d1 := adv h
    obtain ⟨_, d2, _⟩ := at_cons d1
    have d3 := adv d2
    have hand : Ev (fun f => andF s f ((aft st (txt a).length a).at (st.p + (txt a).length + 1))) (.ok (idx (aft st (txt a).length a) b, aft (aft st ((txt a).length + 1) a) (par 1 (rank b) (txt b)).length b)) :=
      par_and hb (st := (aft st (txt a).length a).at (st.p + (txt a).length + 1)) d2 hs.toC (andL_end (x := idx (aft st (txt a).length a) b) (st := aft (aft st ((txt a).length + 1) a) (par 1 (rank b) (txt b)).length b) (by rw [aft_p, aft_p, ← Nat.add_assoc]; exact d3) hs.noAnd)
    refine hand.two hr fun f h1 h2 => ?_
    rw [altL, if_pos (by rw [aft_p, isB_cons d1]; rfl), aft_p, h1]
    dsimp only
    have e : (aft (aft st ((txt a).length + 1) a) (par 1 (rank b) (txt b)).length b).emit (binN 5 (idx st a) (idx (aft st (txt a).length a) b)) = aft st (txt (.alt a b)).length (.alt a b) := by
      have := aft_bin 5 st ((txt a).length + 1) (par 1 (rank b) (txt b)).length a b
      have e2 : idx (aft st ((txt a).length + 1) a) b = idx (aft st (txt a).length a) b := rfl
      rw [e2] at this
      rw [this]; unfold aft; rw [txt, List.length_append, List.length_cons]
      congr 1; omega
    rw [e, last_bin]
    exact h2
  exact ⟨fun h => by simp [rank] at h, fun h => by simp [rank] at h, fun h => by simp [rank] at h, fun h => by simp [rank] at h, hn⟩
theorem cl_not {a : Rg} (ha : Cl a) : Cl (.not a) := by
  refine .ofItem (fun h => by simp [rank] at h) (Nat.le_refl 3) fun s st rest h hn => ?_
  rw [txt, List.cons_append] at h
  obtain ⟨_, d1, _⟩ := at_cons h
  have hi := par_item ha (Nat.le_refl 3) (Nat.le_refl 3) (st := st.at (st.p + 1)) d1 hn
  refine hi.succ fun f h1 => ?_
  rw [itemF, if_pos (by rw [isB_cons h]; rfl), h1]
  dsimp only
  congr 3
  · unfold PS.last idx; rw [aft_len, at_n]; simp [sizeT]; omega
  · unfold aft PS.emit PS.at idx; simp [txt, nodesT]; omega
theorem cl_rep {mn mx : Int} {a : Rg} (ha : Cl a) (h0 : 0 ≤ mn) (h1 : mn ≤ 16) (h2 : mx ≤ 16) (h3 : mx = -1 ∨ mn ≤ mx) : Cl (.rep mn mx a) := by
  have hs : ∀ s st rest r, s.drop st.p = txt (.rep mn mx a) ++ rest → Ev (fun f => itemL s f (idx st (.rep mn mx a)) (aft st (txt (.rep mn mx a)).length (.rep mn mx a))) r → Ev (fun f => itemF s f st) r := by
    intro s st rest r h hr
    rw [txt, List.append_assoc] at h
    refine par_suf ha h ?_
    have d1 := adv h
    have e := suf_text h0 h1 h2 h3 d1
    refine hr.succ fun f h5 => ?_
    rw [itemL, aft_p, e]
    dsimp only
    rw [← h5]
    congr 1
    · unfold PS.last idx; rw [aft_len]; simp [sizeT]; omega
    · unfold aft PS.emit PS.at idx; simp [txt, nodesT]; omega
  refine .ofItem (fun _ => hs) (by simp [rank]) fun s st rest h hn => hs s st rest _ h (itemL_end (by rw [aft_p]; exact adv h) hn)
theorem cl_leaf {t : Rg} (h4 : rank t = 4) (ha : ∀ s st rest, s.drop st.p = txt t ++ rest → Ev (fun f => atomF s f st) (.ok (idx st t, aft st (txt t).length t))) : Cl t := by
  have hs : ∀ s st rest r, s.drop st.p = txt t ++ rest → Ev (fun f => itemL s f (idx st t) (aft st (txt t).length t)) r → Ev (fun f => itemF s f st) r := fun s st rest r h hr => item_of_atom (isB_no h (txt_hd4 t rest h4) (by decide)) (ha s st rest h) hr
  exact .ofItem (fun _ => hs) (by omega) fun s st rest h hn => hs s st rest _ h (itemL_end (by rw [aft_p]; exact adv h) hn)
theorem leaf_eq (st : PS) (n : Nat) (t : Rg) (nd : NodeV) (h1 : sizeT t = 1) (h2 : nodesT st.nodes.length t = [nd]) : (some (.ok (st.last, (st.at (st.p + n)).emit nd)) : PRes) = some (.ok (idx st t, aft st n t)) := by
  unfold PS.last PS.emit PS.at idx aft
  rw [h1, h2]; congr 3; push_cast; omega
theorem cl_cls {c : List Nat} (hc : ClsOk c) : Cl (.cls c) := by
  refine cl_leaf rfl fun s st rest h => ?_
  rw [txt] at h ⊢
  unfold classT at h ⊢
  split at h
  · rename_i h1
    rw [if_pos h1]
    obtain ⟨x, hx⟩ := List.length_eq_one_iff.1 h1
    rw [hx] at h ⊢
    simp only [List.headD_cons] at h ⊢
    have n := charT_hd x rest
    have e := charP_text h
    have hcx : rangeF x x = c := cls_ext (range_ok' _ _) hc fun z => by
      have := memb_iff c z
      rw [hx, List.mem_singleton] at this
      rw [has_range, Bool.eq_iff_iff, Bool.and_eq_true, decide_eq_true_eq, decide_eq_true_eq, ← this, UInt8.le_iff_toNat_le, UInt8.le_iff_toNat_le]
      constructor
      · intro h; exact UInt8.toNat_inj.1 (by omega)
      · rintro rfl; exact ⟨Nat.le_refl _, Nat.le_refl _⟩
    refine .now fun f => ?_
    rw [atomF, if_neg (by rw [isB_no h n (by decide)]; simp), if_neg (by rw [isB_no h n (by decide)]; simp), if_neg (by rw [isB_no h n (by decide)]; simp), if_neg (by rw [isB_no h n (by decide)]; simp), e]
    dsimp only
    rw [hcx]; exact leaf_eq st _ (.cls c) _ rfl rfl
  · rename_i h1
    rw [if_neg h1]
    split at h
    · rename_i h2
      rw [if_pos h2]
      have hca : rangeF 0 255 = c := cls_ext (range_ok' _ _) hc fun z => by
        rw [memb_all h2 z, has_range]; have := z.toNat_lt
        rw [Bool.and_eq_true, decide_eq_true_eq, decide_eq_true_eq, UInt8.le_iff_toNat_le, UInt8.le_iff_toNat_le]
        exact ⟨Nat.zero_le _, by show z.toNat ≤ 255; omega⟩
      refine .now fun f => ?_
      rw [atomF, if_pos (by rw [isB_cons h]; rfl), hca]
      exact leaf_eq st 1 (.cls c) _ rfl rfl
    · rename_i h2
      rw [if_neg h2]
      have h' : s.drop st.p = 91 :: (runsT (membF c).length (membF c) ++ 93 :: rest) := by rw [h]; simp
      obtain ⟨_, d1, _⟩ := at_cons h'
      obtain ⟨f0, hf0⟩ := classL_text (membF c).length (membF c) noC (st.p + 1) (Nat.le_refl _) (memb_asc c) noC_ok d1
      have n94 : isB s (st.p + 1) 94 = false := by
        refine isB_no d1 (bs := [94]) ?_ (by decide)
        cases hm : membF c with
        | nil => exact noHd_cons (by decide)
        | cons x u => rw [List.length_cons, runsT, List.append_assoc]; exact noHd_sub (charT_hd _ _) (by decide)
      refine ⟨f0 + 1, fun f hf => ?_⟩
      obtain ⟨f, rfl⟩ : ∃ k, f = k + 1 := ⟨f - 1, by omega⟩
      obtain ⟨c2, e1, e2, e3⟩ := hf0 f (by omega)
      have hc2 : c2 = c := cls_ext e2 hc fun z => by
        rw [e3 z, has_noC, Bool.false_or, Bool.eq_iff_iff, List.contains_iff_mem]; exact memb_iff c z
      have e4 : classP s f (st.p + 1) = some (.ok (c, st.p + 1 + (runsT (membF c).length (membF c)).length + 1)) := by
        unfold classP; rw [if_neg (by rw [n94]; simp), e1, hc2]
      show atomF s (f + 1) st = _
      rw [atomF, if_neg (by rw [isB_cons h']; decide), if_neg (by rw [isB_cons h']; decide), if_pos (by rw [isB_cons h']; rfl), e4]
      dsimp only
      have := leaf_eq st ((91 :: (runsT (membF c).length (membF c) ++ [93])).length) (.cls c) _ rfl rfl
      rw [← this]
      simp only [List.length_cons, List.length_append, List.length_nil]
      congr 5; omega
theorem cl_all : ∀ t : Rg, TreeOk t → Cl t
  | .none, _ => cl_leaf rfl fun s st rest h => .now fun f => by
      rw [txt] at h
      rw [atomF, if_neg (by rw [isB_cons h]; decide), if_pos (by rw [isB_cons h]; rfl)]; exact leaf_eq st 1 .none _ rfl rfl
  | .eps, _ => cl_leaf rfl fun s st rest h => .now fun f => by
      rw [txt] at h
      obtain ⟨_, d1, _⟩ := at_cons h
      rw [atomF, if_neg (by rw [isB_cons h]; decide), if_neg (by rw [isB_cons h]; decide), if_neg (by rw [isB_cons h]; decide), if_pos (by rw [isB_cons h]; rfl), if_pos (by rw [isB_cons d1]; rfl)]; exact leaf_eq st 2 .eps _ rfl rfl
  | .cls c, h => cl_cls h
  | .cat a b, h => cl_cat (cl_all a h.1) (cl_all b h.2)
  | .alt a b, h => cl_alt (cl_all a h.1) (cl_all b h.2)
  | .and a b, h => cl_and (cl_all a h.1) (cl_all b h.2)
  | .not a, h => cl_not (cl_all a h)
  | .rep mn mx a, h => cl_rep (cl_all a h.2.2.2.2) h.1 h.2.1 h.2.2.1 h.2.2.2.1
/-- The text of a tree is parsed to its nodes. -/
theorem parse_txt {t : Rg} (h : TreeOk t) (hl : (txt t).length ≤ 4000) (hs : sizeT t ≤ 200) : ∃ f, parseP (txt t) f = some (.ok (nodesT 0 t)) := by
  obtain ⟨f0, hf⟩ := (cl_all t h).alt (txt t) ⟨0, []⟩ [] _ (by simp) (fun x u e => by cases e) (altL_end (x := idx ⟨0, []⟩ t) (st := aft ⟨0, []⟩ (txt t).length t) (l := []) (by rw [aft_p]; simp) (fun x u e => by cases e))
  refine ⟨f0, ?_⟩
  unfold parseP
  have hf0 := hf f0 (Nat.le_refl _)
  dsimp only at hf0
  rw [if_neg (by omega), hf0]
  simp only [Option.map_some, endP]
  rw [if_neg (by rw [aft_p]; omega), if_neg (by rw [aft_len]; simp; omega)]
  simp [aft]
end Go.Proofs.YtkmgbcjfidpmgaaGreatDoor
