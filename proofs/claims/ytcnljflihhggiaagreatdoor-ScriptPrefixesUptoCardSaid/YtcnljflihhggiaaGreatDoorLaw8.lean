/- The walk of the law ScriptPrefixes: the call returns true, whatever its arguments read, and changes nothing. -/
import Derived.Test.YtcnljflihhggiaaGreatDoorExWalks5
import Derived.Test.YtcnljflihhggiaaGreatDoorCut
import Derived.Test.YtcnljflihhggiaaGreatDoorProg
import Derived.Test.YtcnljflihhggiaaGreatDoorPlain
import Derived.Test.YtcnljflihhggiaaGreatDoorExThin
import Derived.Test.YtcnljflihhggiaaGreatDoorExOrders
import Derived.Test.YtcnljflihhggiaaGreatDoorExMut
import Derived.Test.YtcnljflihhggiaaGreatDoorShelf
namespace Go.Proofs.YtcnljflihhggiaaGreatDoor
open Go Go.Ex Go.RowKit


def U16P (_ : Ghost) (cs : List Value) (p : UInt16 × UInt16) : Prop := cs = [.int .u16 (p.1.toNat : Int), .int .u16 (p.2.toNat : Int)]
def U16s (G : Ghost) (v : Value) (l : List (UInt16 × UInt16)) : Prop := LstR 2 U16P G v l
theorem U16s.mono {G G' : Ghost} (h : G.le G') {v : Value} {l : List (UInt16 × UInt16)} (hl : U16s G v l) : U16s G' v l := LstR.mono (R := U16P) (G := G) (G' := G') (fun _ _ he => he) h hl
theorem parse_len {s : List UInt8} : (outE (parseP s)).length ≤ 400 := by
  cases h : parseP s with
  | error e => simp [outE]
  | ok l =>
    unfold parseP at h
    split at h
    · cases h
    · obtain ⟨_, _, h3⟩ := parse_back _ 0 0 l (Nat.zero_le _) h
      show l.length ≤ 400
      rcases h3 with rfl | h3 | h3
      · simp
      · omega
      · omega
theorem made_bl (l : List Ev) : ∀ e ∈ madeL l, e.b.length ≤ 400000 := fun e he => by have := madeL_b l e he; omega
theorem u16_wrap (x : UInt16) : IntKind.i64.wrap (x.toNat : Int) = (x.toNat : Int) := wrap64_eq (by have := x.toNat_lt; omega)
theorem str_iff {a b : List UInt8} (h : a = b) : ((⟨a.toArray⟩ : ByteArray).data.toList = (⟨b.toArray⟩ : ByteArray).data.toList) ↔ true = true := ⟨fun _ => rfl, fun _ => by rw [h]⟩
/-- What was parsed can be written: its size. -/
theorem parsed_ok {s : List UInt8} {l : List Ev} (h : parseP s = .ok l) : (∀ e ∈ l, e.b.length ≤ 400000) ∧ (∀ k, (∀ i (hi : i < l.length), i < k → wrE l[i] = true) → (linesT (l.take k)).length ≤ 900000) ∧ l.length ≤ 400 := by
  have h4 : s.length ≤ 4000 := by
    unfold parseP at h
    split at h
    · cases h
    · omega
  have h5 : parseG s s.length 0 0 = .ok l := by unfold parseP at h; rwa [if_neg (by omega)] at h
  obtain ⟨hw, ht, hn⟩ := parse_back _ 0 0 l (Nat.zero_le _) h5
  rw [List.drop_zero] at ht
  have hsum : ∀ (l : List Ev) (e : Ev), e ∈ l → (lineT e).length ≤ (linesT l).length := by
    intro l
    induction l with
    | nil => intro e he; cases he
    | cons a l ih =>
      intro e he
      rw [show linesT (a :: l) = lineT a ++ linesT l from rfl, List.length_append]
      rcases List.mem_cons.1 he with rfl | he
      · omega
      · have := ih e he; omega
  refine ⟨fun e he => ?_, fun k _ => ?_, by rcases hn with rfl | hn | hn; simp; omega; omega⟩
  · have h6 := hsum l e he
    rw [← ht] at h6
    have hwe := hw e he
    rcases hwe.b with hb | hb
    · have h7 : (hexT e.b).length ≤ (lineT e).length := by
        unfold lineT optT
        rw [hb]
        simp only [List.length_append, if_true, List.length_cons]; omega
      have h8 : e.b.length ≤ (hexT e.b).length := by
        unfold hexT
        split
        · simp; omega
        · rw [hexP_len]; omega
      omega
    · rw [hb]; simp
  · have h6 : (linesT (l.take k)).length ≤ (linesT l).length := by
      have : linesT l = linesT (l.take k) ++ linesT (l.drop k) := by unfold linesT; rw [← List.flatMap_append, List.take_append_drop]
      rw [this, List.length_append]; omega
    rw [← ht] at h6; omega
/-- No error's code is 0. -/
def NZ {α : Type} (r : Except Er α) : Prop := ∀ e, r = .error e → e.1 ≠ 0
theorem NZ.ok {α : Type} {a : α} : NZ (.ok a : Except Er α) := fun _ h => by cases h
theorem NZ.er {α : Type} {c : Int} {q : Nat} (h : c ≠ 0) : NZ (.error (c, q) : Except Er α) := fun e he => by injection he with he; subst he; exact h
theorem exp_nz (s : List UInt8) (q : Nat) (b : UInt8) : NZ (expP s q b) := by
  unfold expP; split
  · exact NZ.er (by decide)
  · split
    · exact NZ.ok
    · exact NZ.er (by decide)
theorem word_nz (s : List UInt8) (q : Nat) : NZ (wordP s q) := by
  unfold wordP; split
  · exact NZ.er (by decide)
  · split
    · exact NZ.er (by decide)
    · exact NZ.ok
theorem num_nz (s : List UInt8) (q : Nat) : NZ (numP s q) := by
  unfold numP
  have h1 := exp_nz s q 32
  cases he : expP s q 32 with
  | error e => rw [he] at h1; exact fun e' h => h1 e' (by injection h with h; rw [h])
  | ok q1 =>
    dsimp only
    have h2 := word_nz s q1
    cases hw : wordP s q1 with
    | error e => rw [hw] at h2; exact fun e' h => h2 e' (by injection h with h; rw [h])
    | ok r =>
      dsimp only; unfold numV; split
      · exact NZ.er (by decide)
      · split
        · exact NZ.er (by decide)
        · exact NZ.ok
theorem bytes_nz (s : List UInt8) (q : Nat) : NZ (bytesP s q) := by
  unfold bytesP
  have h1 := exp_nz s q 32
  cases he : expP s q 32 with
  | error e => rw [he] at h1; exact fun e' h => h1 e' (by injection h with h; rw [h])
  | ok q1 =>
    dsimp only
    have h2 := word_nz s q1
    cases hw : wordP s q1 with
    | error e => rw [hw] at h2; exact fun e' h => h2 e' (by injection h with h; rw [h])
    | ok r =>
      dsimp only; unfold hexW; split
      · exact NZ.ok
      · split
        · exact NZ.er (by decide)
        · exact NZ.ok
theorem a_nz (s : List UInt8) (u : Bool) (q : Nat) : NZ (aP s u q) := by unfold aP; split; exact num_nz s q; exact NZ.ok
theorem b_nz (s : List UInt8) (u : Bool) (q : Nat) : NZ (bP s u q) := by unfold bP; split; exact bytes_nz s q; exact NZ.ok
theorem args_nz (s : List UInt8) (k q : Nat) : NZ (argsP s k q) := by
  unfold argsP
  have h1 := a_nz s (useA k) q
  cases ha : aP s (useA k) q with
  | error e => rw [ha] at h1; exact fun e' h => h1 e' (by injection h with h; rw [h])
  | ok r =>
    dsimp only
    have h2 := b_nz s (useB k) r.2
    cases hb : bP s (useB k) r.2 with
    | error e => rw [hb] at h2; exact fun e' h => h2 e' (by injection h with h; rw [h])
    | ok r2 =>
      dsimp only
      have h3 := a_nz s (useC k) r2.2
      cases hc : aP s (useC k) r2.2 with
      | error e => rw [hc] at h3; exact fun e' h => h3 e' (by injection h with h; rw [h])
      | ok r3 =>
        dsimp only
        have h4 := exp_nz s r3.2 10
        cases he : expP s r3.2 10 with
        | error e => rw [he] at h4; exact fun e' h => h4 e' (by injection h with h; rw [h])
        | ok q4 => exact NZ.ok
theorem event_nz (s : List UInt8) (q : Nat) : NZ (eventP s q) := by
  unfold eventP
  have h1 := word_nz s q
  cases hw : wordP s q with
  | error e => rw [hw] at h1; exact fun e' h => h1 e' (by injection h with h; rw [h])
  | ok r =>
    dsimp only
    split
    · exact NZ.er (by decide)
    · exact args_nz _ _ _
theorem parseG_nz (s : List UInt8) : ∀ (f q n : Nat), s.length ≤ q + f → NZ (parseG s f q n)
  | 0, q, n, h => by unfold parseG; rw [if_pos (by omega)]; exact NZ.ok
  | f + 1, q, n, h => by
    unfold parseG
    split
    · exact NZ.ok
    · split
      · exact NZ.er (by decide)
      · have h1 := event_nz s q
        cases he : eventP s q with
        | error e => rw [he] at h1; exact fun e' h => h1 e' (by injection h with h; rw [h])
        | ok r =>
          obtain ⟨e, q1⟩ := r
          dsimp only
          have h2 := (event_back he).2.2.1
          have h3 := line_pos e
          have ih := parseG_nz s f q1 (n + 1) (by omega)
          cases hg : parseG s f q1 (n + 1) with
          | error e => rw [hg] at ih; exact fun e' h => ih e' (by injection h with h; rw [h])
          | ok l => exact NZ.ok
theorem parse_zero {s : List UInt8} (h : outC (parseP s) = 0) : ∃ l, parseP s = .ok l := by
  cases hp : parseP s with
  | ok l => exact ⟨l, rfl⟩
  | error e =>
    rw [hp] at h
    unfold parseP at hp
    split at hp
    · injection hp with hp; subst hp; cases h
    · exact absurd h (parseG_nz s _ 0 0 (by omega) e hp)


theorem cut_cases {T : List UInt8} {K j : Nat} {l : List Ev} (hK : K ≤ T.length) (hr : parseP T = .ok l) (hno : ¬ (K = 0 ∨ T[K - 1]? = some 10)) (hj : j ≤ K) (hw : ∀ i (hi : i < T.length), j ≤ i → i < K → wB T[i] = true) (h0 : j = 0 ∨ ∃ h : j - 1 < T.length, wB T[j - 1] = false) :
    (outC (parseP (T.take K)) = 21 ∧ outA (parseP (T.take K)) = K ∧ outE (parseP (T.take K)) = []) ∨ (outC (parseP (T.take K)) = 20 ∧ outA (parseP (T.take K)) = j ∧ j < K ∧ outE (parseP (T.take K)) = []) := by
  obtain ⟨e, he, hc⟩ := (cut_law hK hr).2 hno
  have hl : (T.take K).length = K := by rw [List.length_take]; omega
  have hlw : LwOk (T.take K) j := by
    refine ⟨by omega, fun i h h1 => ?_, ?_⟩
    · rw [List.getElem_take]; exact hw i (by omega) h1 (by omega)
    · rcases h0 with h0 | ⟨h, h0⟩
      · exact .inl h0
      · rcases Nat.eq_zero_or_pos j with hz | hz
        · exact .inl hz
        · exact .inr ⟨by omega, by rw [List.getElem_take]; exact h0⟩
  rw [he]
  rcases hc with rfl | ⟨p, rfl, hp, hlt⟩
  · left; exact ⟨rfl, hl, rfl⟩
  · right
    have := hp.one hlw
    subst this
    exact ⟨rfl, rfl, by omega, rfl⟩
theorem one_lst {G : Ghost} {cs : List (List Value)} {l : List Ev} (h : All2 (EvR G) cs l) : ∀ y ∈ cs.flatten, y.oneCell' = true := by
  induction cs generalizing l with
  | nil => intro y hy; cases hy
  | cons c cs ih =>
    match l, h with
    | e :: l, ⟨h1, h2⟩ =>
      intro y hy
      rw [List.flatten_cons] at hy
      rcases List.mem_append.1 hy with hy | hy
      · obtain ⟨v, rfl, hb⟩ := h1; exact one4 hb y hy
      · exact ih h2 y hy
theorem syncs_succ (k : Nat) : linesT (List.replicate (k + 1) syncE) = linesT (List.replicate k syncE) ++ [115, 121, 110, 99, 10] := by
  rw [List.replicate_succ', linesT, List.flatMap_append]
  show _ ++ (lineT syncE ++ []) = _
  rw [sync_line]; rfl
theorem EvCs.append {G : Ghost} {a b : List (List Value)} {x y : List Ev} (h1 : EvCs G a x) (h2 : EvCs G b y) : EvCs G (a ++ b) (x ++ y) :=
  ⟨All2.append h1.1 h2.1, fun c hc => (List.mem_append.1 hc).elim (h1.2 c) (h2.2 c)⟩
theorem cat_wr (a b : List Ev) : ∀ e ∈ madeL a ++ madeL b, Wr e := fun e he => (List.mem_append.1 he).elim (madeL_wr a e) (madeL_wr b e)


set_option maxHeartbeats 4000000 in
set_option maxRecDepth 10000 in
theorem lawPrefix {G : Ghost} {v : Value} {l : List Ev} {y : UInt16} (hx : Evs G v l) (hl : l.length ≤ 1048576) (hT : Tab10 G) :
  FnOk Tryz.prog 8 [v, .int .u16 (y.toNat : Int)] G [] fun r _ H' => H' = [] ∧ r = .bool true := by
 refine FnOk.of_T [(0, _), (1, _)] Tryz.func8 rfl Tryz.ntmps8 (by simp) rfl fun w0 hs => ?_
 have hx0 := hx
 have hT0 := hT
 refine T_seq (T_region rfl ?_)
 refine O_a rfl ?_
 refine O_nil (T_kp [0, 1] rfl ?_)
 refine T_seq (T_region rfl ?_)
 refine O_s (S_call (H1 := []) hs rfl Tryz.func11 rfl (by kernel_rfl) (sanity_ok hT) fun v1 G' H' _ hR hG12 hs => ?_)
 obtain ⟨rfl, rfl⟩ := hR
 replace hs : St _ _ [] _ := hs
 replace hx := hx.mono hG12
 replace hT := hT.mono hG12
 refine O_a rfl ?_
 refine O_nil (T_kp [0, 1, 5] rfl ?_)
 refine T_seq (T_region rfl ?_)
 refine O_m rfl ?_
 refine O_s (S_call (H1 := []) hs rfl Tryz.func13 rfl (by kernel_rfl) (made_ok hx) fun v2 G' H' _ hR hG14 hs => ?_)
 obtain ⟨rfl, hmd⟩ := hR
 replace hs : St _ _ [] _ := hs
 replace hx := hx.mono hG14
 replace hT := hT.mono hG14
 refine O_s (S_call (H1 := []) hs rfl Tryz.func17 rfl (by kernel_rfl) (fmt_ok hmd hT (made_bl l) (made_hlen l) (by have := madeL_len l; omega)) fun v3 G' H' _ hR hG15 hs => ?_)
 obtain ⟨rfl, rfl⟩ := hR
 replace hs : St _ _ [] _ := hs
 replace hx := hx.mono hG15
 replace hT := hT.mono hG15
 replace hmd := hmd.mono hG15
 refine O_a rfl ?_
 refine O_nil (T_kp [1, 5, 6] rfl ?_)
 have hsz := bsz (fmtT (madeL l))
 refine T_seq (T_seq (T_region rfl ?_))
 refine O_m rfl ?_
 refine O_y hs (Y_lenS Tryz.underlying9 rfl ?_)
 refine O_y hs (Y_cmpS rfl rfl rfl (fun h18 => ?_) (fun h18 => ?_))
 ·
  dsimp only [cmpP] at h18
  refine O_nil (T_kp [1, 5, 6, 18] rfl ?_)
  refine T_condT rfl (T_seq (T_region rfl ?_))
  refine O_m rfl ?_
  refine O_a rfl ?_
  refine O_nil (T_kp [4] rfl ?_)
  refine T_ret ?_
  refine Rt_fin (vs := [_]) Tryz.results8 rfl ⟨rfl, trivial⟩ ?_
  try dsimp only [tup]
  exact ⟨_, [], hs.done, rfl, rfl⟩
 ·
  dsimp only [cmpP] at h18
  refine O_nil (T_kp [1, 5, 6, 18] rfl ?_)
  refine T_condF rfl (T_skip ?_)
  have hrt : parseP (fmtT (madeL l)) = .ok (madeL l) := round_trip (madeL_wr l) (by have := madeL_len l; omega) (by omega)
  obtain ⟨K, hKe⟩ : ∃ K, K = y.toNat % ((fmtT (madeL l)).length + 1) := ⟨_, rfl⟩
  have hK : K ≤ (fmtT (madeL l)).length := by have := Nat.mod_lt y.toNat (show 0 < (fmtT (madeL l)).length + 1 by omega); omega
  refine T_seq (T_region rfl ?_)
  refine O_m rfl ?_
  refine O_y hs (Y_conv Tryz.underlying28 Tryz.underlying3 (c := (y.toNat : Int)) rfl (u16_wrap _) ?_)
  refine O_m rfl ?_
  refine O_y hs (Y_lenS Tryz.underlying9 rfl ?_)
  refine O_y hs (Y_add (c := (((fmtT (madeL l)).length + 1 : Nat) : Int)) rfl rfl (by omega) (by omega) ?_)
  refine O_y hs (Y_rem (c := (K : Int)) rfl rfl (by omega) (by omega) (by rw [hKe]; omega) ?_)
  refine O_a rfl ?_
  refine O_nil (T_kp [5, 6, 7] rfl ?_)
  refine T_seq (T_region rfl ?_)
  refine O_m rfl ?_
  refine O_m rfl ?_
  refine O_y hs (Y_sliceStr 0 K Tryz.underlying9 rfl rfl ⟨_, _, rfl, rfl⟩ (by omega) (by omega) ?_)
  refine O_s (S_call (H1 := []) hs rfl Tryz.func14 rfl (by kernel_rfl) (parse_is (s := ((fmtT (madeL l)).take K)) rfl (by have := fmt_made_len l; rw [List.length_take]; omega)) fun v4 G' H' _ hR hG30 hs => ?_)
  obtain ⟨rfl, A30, c30, hE30, rfl⟩ := hR
  replace hs : St _ _ [] _ := hs
  replace hx := hx.mono hG30
  replace hT := hT.mono hG30
  replace hmd := hmd.mono hG30
  refine O_m rfl ?_
  refine O_y hs (Y_extract rfl rfl ?_)
  refine O_y hs (Y_extract rfl rfl ?_)
  refine O_y hs (Y_extract rfl rfl ?_)
  refine O_a rfl ?_
  refine O_a rfl ?_
  refine O_a rfl ?_
  refine O_nil (T_kp [5, 6, 7, 8, 9, 10] rfl ?_)
  refine T_seq (T_seq (T_region rfl ?_))
  refine O_m rfl ?_
  refine O_y hs (Y_cmpS rfl rfl rfl (fun h35 => ?_) (fun h35 => ?_))
  ·
   dsimp only [cmpP] at h35
   refine O_m rfl ?_
   refine O_no 36 rfl rfl ?_
   refine O_no 36 rfl rfl ?_
   refine O_no 36 rfl rfl ?_
   refine O_no 36 rfl rfl ?_
   refine O_no 36 rfl rfl ?_
   refine O_y hs (Y_pickT rfl rfl ?_)
   refine O_nil (T_kp [5, 6, 7, 8, 9, 10, 42] rfl ?_)
   obtain ⟨l', hl', hf'⟩ := (cut_law hK hrt).1 (.inl (by omega))
   refine T_condT rfl (T_seq (T_drawS [0, 1, 2, 3, 4, 5, 6, 7, 8, 9, 10, 11, 12, 13, 14, 15, 16, 17] hs (by kernel_rfl) ?_))
   replace hs := hs.drew
   refine A_take 0 rfl (by kernel_rfl) rfl hs (Y_move rfl ?_)
   refine A_take 1 rfl (by kernel_rfl) rfl hs (Y_cmpT rfl rfl rfl (by rw [hl']; rfl) ?_)
   refine A_take 2 rfl (by kernel_rfl) rfl hs (Y_move rfl ?_)
   refine A_take 3 rfl (by kernel_rfl) rfl hs (Y_move rfl ?_)
   refine A_take 4 rfl (by kernel_rfl) rfl hs (Y_cmpT rfl rfl rfl (by rw [hl']; rfl) ?_)
   refine A_take 5 rfl (by kernel_rfl) rfl hs (Y_pickT rfl rfl ?_)
   refine A_take 6 rfl (by kernel_rfl) rfl hs (Y_move rfl ?_)
   refine A_take 7 rfl (by kernel_rfl) rfl hs (Y_move rfl ?_)
   refine A_take 9 rfl (by kernel_rfl) rfl hs (Y_move rfl ?_)
   refine A_take 10 rfl (by kernel_rfl) rfl hs (Y_move rfl ?_)
   refine A_take 11 rfl (by kernel_rfl) rfl hs (Y_sliceStr 0 K Tryz.underlying9 rfl rfl ⟨_, _, rfl, rfl⟩ (by omega) (by omega) ?_)
   have hle := hs.le
   refine A_only 8 rfl (by kernel_rfl) rfl (S_call (H1 := []) hs rfl Tryz.func17 rfl (by kernel_rfl) (fmt_ok (l := outE (parseP ((fmtT (madeL l)).take K))) hE30 hT (by rw [hl']; exact (parsed_ok hl').1) (by rw [hl']; exact (parsed_ok hl').2.1) (by rw [hl']; exact Nat.le_trans (parsed_ok hl').2.2 (by decide))) fun v5 G' H' _ hR hG51 hs => ?_)
   obtain ⟨rfl, rfl⟩ := hR
   replace hs : St _ _ [] _ := hs
   replace hx := hx.mono hG51
   replace hT := hT.mono hG51
   replace hmd := hmd.mono hG51
   replace hE30 := hE30.mono hG51
   refine A_moreS hs hle hG51 (List.Sublist.refl _) ?_
   refine A_take 12 rfl (by kernel_rfl) rfl hs (Y_strEq (b := true) rfl rfl (str_iff (by rw [hl']; exact hf')) ?_)
   refine A_take 13 rfl (by kernel_rfl) rfl hs (Y_pickT rfl rfl ?_)
   refine A_take 14 rfl (by kernel_rfl) rfl hs (Y_move rfl ?_)
   refine A_take 15 rfl (by kernel_rfl) rfl hs (Y_move rfl ?_)
   refine A_take 16 rfl (by kernel_rfl) rfl hs (Y_pickT rfl rfl ?_)
   refine A_take 17 rfl (by kernel_rfl) rfl hs (Y_assign rfl ?_)
   refine A_done (by kernel_rfl) (T_kp [4] rfl ?_)
   refine T_ret ?_
   refine Rt_fin (vs := [_]) Tryz.results8 rfl ⟨rfl, trivial⟩ ?_
   try dsimp only [tup]
   exact ⟨_, [], hs.done, rfl, rfl⟩
  ·
   dsimp only [cmpP] at h35
   refine O_m rfl ?_
   refine O_yy 36 hs rfl rfl (Y_move rfl ?_)
   refine O_yy 36 hs rfl rfl (Y_move rfl ?_)
   refine O_yy 36 hs rfl rfl (Y_sub (c := ((K - 1 : Nat) : Int)) rfl rfl (by omega) (by omega) ?_)
   refine O_yy 36 hs rfl rfl (Y_idxStr (b := (fmtT (madeL l))[K - 1]'(by omega)) (K - 1) Tryz.underlying9 rfl rfl rfl (str_at (List.getElem?_eq_getElem (by omega))) ?_)
   refine O_yy 36 hs rfl rfl (Y_cmpS rfl rfl rfl (fun h41 => ?_) (fun h41 => ?_))
   ·
    dsimp only [cmpP] at h41
    refine O_y hs (Y_pickF rfl rfl ?_)
    refine O_nil (T_kp [5, 6, 7, 8, 9, 10, 42] rfl ?_)
    obtain ⟨l', hl', hf'⟩ := (cut_law hK hrt).1 (.inr (by rw [List.getElem?_eq_getElem (show K - 1 < (fmtT (madeL l)).length by omega), show (fmtT (madeL l))[K - 1]'(by omega) = 10 from b10 (by omega)]))
    refine T_condT rfl (T_seq (T_drawS [0, 1, 2, 3, 4, 5, 6, 7, 8, 9, 10, 11, 12, 13, 14, 15, 16, 17] hs (by kernel_rfl) ?_))
    replace hs := hs.drew
    refine A_take 0 rfl (by kernel_rfl) rfl hs (Y_move rfl ?_)
    refine A_take 1 rfl (by kernel_rfl) rfl hs (Y_cmpT rfl rfl rfl (by rw [hl']; rfl) ?_)
    refine A_take 2 rfl (by kernel_rfl) rfl hs (Y_move rfl ?_)
    refine A_take 3 rfl (by kernel_rfl) rfl hs (Y_move rfl ?_)
    refine A_take 4 rfl (by kernel_rfl) rfl hs (Y_cmpT rfl rfl rfl (by rw [hl']; rfl) ?_)
    refine A_take 5 rfl (by kernel_rfl) rfl hs (Y_pickT rfl rfl ?_)
    refine A_take 6 rfl (by kernel_rfl) rfl hs (Y_move rfl ?_)
    refine A_take 7 rfl (by kernel_rfl) rfl hs (Y_move rfl ?_)
    refine A_take 9 rfl (by kernel_rfl) rfl hs (Y_move rfl ?_)
    refine A_take 10 rfl (by kernel_rfl) rfl hs (Y_move rfl ?_)
    refine A_take 11 rfl (by kernel_rfl) rfl hs (Y_sliceStr 0 K Tryz.underlying9 rfl rfl ⟨_, _, rfl, rfl⟩ (by omega) (by omega) ?_)
    have hle := hs.le
    refine A_only 8 rfl (by kernel_rfl) rfl (S_call (H1 := []) hs rfl Tryz.func17 rfl (by kernel_rfl) (fmt_ok (l := outE (parseP ((fmtT (madeL l)).take K))) hE30 hT (by rw [hl']; exact (parsed_ok hl').1) (by rw [hl']; exact (parsed_ok hl').2.1) (by rw [hl']; exact Nat.le_trans (parsed_ok hl').2.2 (by decide))) fun v6 G' H' _ hR hG51 hs => ?_)
    obtain ⟨rfl, rfl⟩ := hR
    replace hs : St _ _ [] _ := hs
    replace hx := hx.mono hG51
    replace hT := hT.mono hG51
    replace hmd := hmd.mono hG51
    replace hE30 := hE30.mono hG51
    refine A_moreS hs hle hG51 (List.Sublist.refl _) ?_
    refine A_take 12 rfl (by kernel_rfl) rfl hs (Y_strEq (b := true) rfl rfl (str_iff (by rw [hl']; exact hf')) ?_)
    refine A_take 13 rfl (by kernel_rfl) rfl hs (Y_pickT rfl rfl ?_)
    refine A_take 14 rfl (by kernel_rfl) rfl hs (Y_move rfl ?_)
    refine A_take 15 rfl (by kernel_rfl) rfl hs (Y_move rfl ?_)
    refine A_take 16 rfl (by kernel_rfl) rfl hs (Y_pickT rfl rfl ?_)
    refine A_take 17 rfl (by kernel_rfl) rfl hs (Y_assign rfl ?_)
    refine A_done (by kernel_rfl) (T_kp [4] rfl ?_)
    refine T_ret ?_
    refine Rt_fin (vs := [_]) Tryz.results8 rfl ⟨rfl, trivial⟩ ?_
    try dsimp only [tup]
    exact ⟨_, [], hs.done, rfl, rfl⟩
   ·
    dsimp only [cmpP] at h41
    refine O_y hs (Y_pickF rfl rfl ?_)
    refine O_nil (T_kp [5, 6, 7, 8, 9, 10, 42] rfl ?_)
    refine T_condF rfl (T_skip ?_)
    have hno : ¬ (K = 0 ∨ (fmtT (madeL l))[K - 1]? = some 10) := fun h => h.elim (fun h => by omega) (fun h => by rw [List.getElem?_eq_getElem (by omega)] at h; injection h with h; exact h41 (by rw [h]; rfl))
    refine T_seq (T_region rfl ?_)
    refine O_m rfl ?_
    refine O_a rfl ?_
    refine O_nil (T_kp [5, 6, 7, 8, 9, 10, 11] rfl ?_)
    refine T_seq (T_block (T_loop (fun m E w => ∃ (j : Nat) (G2 : Ghost), Evs G2 (.slice A30 (outE (parseP ((fmtT (madeL l)).take K))).length c30) (outE (parseP ((fmtT (madeL l)).take K))) ∧ j ≤ K ∧ (∀ i (hi : i < (fmtT (madeL l)).length), j ≤ i → i < K → wB (fmtT (madeL l))[i] = true) ∧ m = j + 0 ∧ E = ⟨[], [(5, .bool true), (6, .string ⟨(fmtT (madeL l)).toArray⟩), (7, .int .i64 (K : Int)), (8, .slice A30 (outE (parseP ((fmtT (madeL l)).take K))).length c30), (9, .int .i64 (outA (parseP ((fmtT (madeL l)).take K)) : Int)), (10, .int .i64 (outC (parseP ((fmtT (madeL l)).take K)))), (11, .int .i64 (j : Int))]⟩ ∧ St ⟨w0, G, feet []⟩ G2 [] w) (L := [(5, _), (6, _), (7, _), (8, _), (9, _), (10, _), (11, _)]) ⟨rfl, rfl, rfl, rfl, rfl, rfl, rfl, trivial⟩ (⟨K, _, hE30, by omega, fun i _ h1 h2 => absurd h2 (by omega), rfl, rfl, hs⟩) fun m E w hI => ?_))
    obtain ⟨j, G2, hE30, hj, hjw, hm, rfl, hs⟩ := hI
    have hT := hT0.mono hs.le
    refine T_seq (T_seq (T_region rfl ?_))
    refine O_m rfl ?_
    refine O_y hs (Y_cmpS rfl rfl rfl (fun h62 => ?_) (fun h62 => ?_))
    ·
     dsimp only [cmpP] at h62
     refine O_m rfl ?_
     refine O_yy 63 hs rfl rfl (Y_move rfl ?_)
     refine O_yy 63 hs rfl rfl (Y_move rfl ?_)
     refine O_yy 63 hs rfl rfl (Y_sub (c := ((j - 1 : Nat) : Int)) rfl rfl (by omega) (by omega) ?_)
     refine O_yy 63 hs rfl rfl (Y_idxStr (b := (fmtT (madeL l))[j - 1]'(by omega)) (j - 1) Tryz.underlying9 rfl rfl rfl (str_at (List.getElem?_eq_getElem (by omega))) ?_)
     refine O_yy 63 hs rfl rfl (Y_cmpS rfl rfl rfl (fun h68 => ?_) (fun h68 => ?_))
     ·
      dsimp only [cmpP] at h68
      refine O_y hs (Y_pickT rfl rfl ?_)
      refine O_m rfl ?_
      refine O_yy 70 hs rfl rfl (Y_move rfl ?_)
      refine O_yy 70 hs rfl rfl (Y_move rfl ?_)
      refine O_yy 70 hs rfl rfl (Y_sub (c := ((j - 1 : Nat) : Int)) rfl rfl (by omega) (by omega) ?_)
      refine O_yy 70 hs rfl rfl (Y_idxStr (b := (fmtT (madeL l))[j - 1]'(by omega)) (j - 1) Tryz.underlying9 rfl rfl rfl (str_at (List.getElem?_eq_getElem (by omega))) ?_)
      refine O_yy 70 hs rfl rfl (Y_cmpS rfl rfl rfl (fun h75 => ?_) (fun h75 => ?_))
      ·
       dsimp only [cmpP] at h75
       refine O_y hs (Y_pickT rfl rfl ?_)
       refine O_nil (T_kp [5, 6, 7, 8, 9, 10, 11, 76] rfl ?_)
       refine T_condT rfl (T_skip ?_)
       refine T_block (T_region rfl ?_)
       refine O_m rfl ?_
       refine O_y hs (Y_sub (c := ((j - 1 : Nat) : Int)) rfl rfl (by omega) (by omega) ?_)
       refine O_a rfl ?_
       have hwb := wB_t (b := (fmtT (madeL l))[j - 1]'(by omega)) (fun h => h68 (by rw [h]; rfl)) (fun h => h75 (by rw [h]; rfl))
       refine O_nil ⟨_, ?_, [(5, _), (6, _), (7, _), (8, _), (9, _), (10, _), (11, _)], ⟨rfl, rfl, rfl, rfl, rfl, rfl, rfl, trivial⟩, ⟨j - 1, _, hE30, by omega, fun i hi h1 h2 => (Nat.lt_or_ge i j).elim (fun h' => by have hij : i = j - 1 := (by omega); subst hij; exact hwb) (fun h' => hjw i hi h' h2), rfl, rfl, hs⟩⟩
       omega
      ·
       dsimp only [cmpP] at h75
       refine O_y hs (Y_pickT rfl rfl ?_)
       refine O_nil (T_kp [5, 6, 7, 8, 9, 10, 11, 76] rfl ?_)
       refine T_condF rfl (T_exit ?_)
       have hcs := cut_cases hK hrt hno hj hjw (.inr ⟨by omega, wB_f (.inr (b10 (by omega)))⟩)
       refine T_seq (T_region rfl ?_)
       rcases hcs with ⟨hc1, hc2, hc3⟩ | ⟨hc1, hc2, hc4, hc3⟩
       ·
        refine O_m rfl ?_
        refine O_y hs (Y_cmpT rfl rfl rfl (hc1) ?_)
        refine O_m rfl ?_
        refine O_yy 81 hs rfl rfl (Y_move rfl ?_)
        refine O_yy 81 hs rfl rfl (Y_move rfl ?_)
        refine O_yy 81 hs rfl rfl (Y_cmpT rfl rfl rfl (by omega) ?_)
        refine O_y hs (Y_pickT rfl rfl ?_)
        refine O_m rfl ?_
        refine O_no 86 rfl rfl ?_
        refine O_no 86 rfl rfl ?_
        refine O_no 86 rfl rfl ?_
        refine O_noU 89 rfl rfl ?_
        refine O_noU 89 rfl rfl ?_
        refine O_noU 89 rfl rfl ?_
        refine O_no 86 rfl rfl ?_
        refine O_no 86 rfl rfl ?_
        refine O_noU 94 rfl rfl ?_
        refine O_noU 94 rfl rfl ?_
        refine O_noU 94 rfl rfl ?_
        refine O_no 86 rfl rfl ?_
        refine O_y hs (Y_pickT rfl rfl ?_)
        refine O_m rfl ?_
        refine O_yy 100 hs rfl rfl (Y_move rfl ?_)
        refine O_yy 100 hs rfl rfl (Y_len Tryz.underlying22 rfl ?_)
        refine O_yy 100 hs rfl rfl (Y_cmpT rfl rfl rfl (by rw [hc3]; rfl) ?_)
        refine O_y hs (Y_pickT rfl rfl ?_)
        refine O_m rfl ?_
        refine O_yy 105 hs rfl rfl (Y_move rfl ?_)
        refine O_y hs (Y_pickT rfl rfl ?_)
        refine O_a rfl ?_
        refine O_nil (T_kp [4] rfl ?_)
        refine T_ret ?_
        refine Rt_fin (vs := [_]) Tryz.results8 rfl ⟨rfl, trivial⟩ ?_
        try dsimp only [tup]
        exact ⟨_, [], hs.done, rfl, rfl⟩
       ·
        refine O_m rfl ?_
        refine O_y hs (Y_cmpF rfl rfl rfl (by rw [hc1]; decide) ?_)
        refine O_m rfl ?_
        refine O_no 81 rfl rfl ?_
        refine O_no 81 rfl rfl ?_
        refine O_no 81 rfl rfl ?_
        refine O_y hs (Y_pickF rfl rfl ?_)
        refine O_m rfl ?_
        refine O_yy 86 hs rfl rfl (Y_move rfl ?_)
        refine O_yy 86 hs rfl rfl (Y_cmpT rfl rfl rfl (hc1) ?_)
        refine O_yy 86 hs rfl rfl (Y_move rfl ?_)
        refine O_yy 89 hs rfl rfl (Y_move rfl ?_)
        refine O_yy 89 hs rfl rfl (Y_move rfl ?_)
        refine O_yy 89 hs rfl rfl (Y_cmpT rfl rfl rfl (by omega) ?_)
        refine O_yy 86 hs rfl rfl (Y_pickT rfl rfl ?_)
        refine O_yy 86 hs rfl rfl (Y_move rfl ?_)
        refine O_yy 94 hs rfl rfl (Y_move rfl ?_)
        refine O_yy 94 hs rfl rfl (Y_move rfl ?_)
        refine O_yy 94 hs rfl rfl (Y_cmpT rfl rfl rfl (by omega) ?_)
        refine O_yy 86 hs rfl rfl (Y_pickT rfl rfl ?_)
        refine O_y hs (Y_pickF rfl rfl ?_)
        refine O_m rfl ?_
        refine O_yy 100 hs rfl rfl (Y_move rfl ?_)
        refine O_yy 100 hs rfl rfl (Y_len Tryz.underlying22 rfl ?_)
        refine O_yy 100 hs rfl rfl (Y_cmpT rfl rfl rfl (by rw [hc3]; rfl) ?_)
        refine O_y hs (Y_pickT rfl rfl ?_)
        refine O_m rfl ?_
        refine O_yy 105 hs rfl rfl (Y_move rfl ?_)
        refine O_y hs (Y_pickT rfl rfl ?_)
        refine O_a rfl ?_
        refine O_nil (T_kp [4] rfl ?_)
        refine T_ret ?_
        refine Rt_fin (vs := [_]) Tryz.results8 rfl ⟨rfl, trivial⟩ ?_
        try dsimp only [tup]
        exact ⟨_, [], hs.done, rfl, rfl⟩
     ·
      dsimp only [cmpP] at h68
      refine O_y hs (Y_pickT rfl rfl ?_)
      refine O_m rfl ?_
      refine O_no 70 rfl rfl ?_
      refine O_no 70 rfl rfl ?_
      refine O_no 70 rfl rfl ?_
      refine O_no 70 rfl rfl ?_
      refine O_no 70 rfl rfl ?_
      refine O_y hs (Y_pickF rfl rfl ?_)
      refine O_nil (T_kp [5, 6, 7, 8, 9, 10, 11, 76] rfl ?_)
      refine T_condF rfl (T_exit ?_)
      have hcs := cut_cases hK hrt hno hj hjw (.inr ⟨by omega, wB_f (.inl (b32 (by omega)))⟩)
      refine T_seq (T_region rfl ?_)
      rcases hcs with ⟨hc1, hc2, hc3⟩ | ⟨hc1, hc2, hc4, hc3⟩
      ·
       refine O_m rfl ?_
       refine O_y hs (Y_cmpT rfl rfl rfl (hc1) ?_)
       refine O_m rfl ?_
       refine O_yy 81 hs rfl rfl (Y_move rfl ?_)
       refine O_yy 81 hs rfl rfl (Y_move rfl ?_)
       refine O_yy 81 hs rfl rfl (Y_cmpT rfl rfl rfl (by omega) ?_)
       refine O_y hs (Y_pickT rfl rfl ?_)
       refine O_m rfl ?_
       refine O_no 86 rfl rfl ?_
       refine O_no 86 rfl rfl ?_
       refine O_no 86 rfl rfl ?_
       refine O_noU 89 rfl rfl ?_
       refine O_noU 89 rfl rfl ?_
       refine O_noU 89 rfl rfl ?_
       refine O_no 86 rfl rfl ?_
       refine O_no 86 rfl rfl ?_
       refine O_noU 94 rfl rfl ?_
       refine O_noU 94 rfl rfl ?_
       refine O_noU 94 rfl rfl ?_
       refine O_no 86 rfl rfl ?_
       refine O_y hs (Y_pickT rfl rfl ?_)
       refine O_m rfl ?_
       refine O_yy 100 hs rfl rfl (Y_move rfl ?_)
       refine O_yy 100 hs rfl rfl (Y_len Tryz.underlying22 rfl ?_)
       refine O_yy 100 hs rfl rfl (Y_cmpT rfl rfl rfl (by rw [hc3]; rfl) ?_)
       refine O_y hs (Y_pickT rfl rfl ?_)
       refine O_m rfl ?_
       refine O_yy 105 hs rfl rfl (Y_move rfl ?_)
       refine O_y hs (Y_pickT rfl rfl ?_)
       refine O_a rfl ?_
       refine O_nil (T_kp [4] rfl ?_)
       refine T_ret ?_
       refine Rt_fin (vs := [_]) Tryz.results8 rfl ⟨rfl, trivial⟩ ?_
       try dsimp only [tup]
       exact ⟨_, [], hs.done, rfl, rfl⟩
      ·
       refine O_m rfl ?_
       refine O_y hs (Y_cmpF rfl rfl rfl (by rw [hc1]; decide) ?_)
       refine O_m rfl ?_
       refine O_no 81 rfl rfl ?_
       refine O_no 81 rfl rfl ?_
       refine O_no 81 rfl rfl ?_
       refine O_y hs (Y_pickF rfl rfl ?_)
       refine O_m rfl ?_
       refine O_yy 86 hs rfl rfl (Y_move rfl ?_)
       refine O_yy 86 hs rfl rfl (Y_cmpT rfl rfl rfl (hc1) ?_)
       refine O_yy 86 hs rfl rfl (Y_move rfl ?_)
       refine O_yy 89 hs rfl rfl (Y_move rfl ?_)
       refine O_yy 89 hs rfl rfl (Y_move rfl ?_)
       refine O_yy 89 hs rfl rfl (Y_cmpT rfl rfl rfl (by omega) ?_)
       refine O_yy 86 hs rfl rfl (Y_pickT rfl rfl ?_)
       refine O_yy 86 hs rfl rfl (Y_move rfl ?_)
       refine O_yy 94 hs rfl rfl (Y_move rfl ?_)
       refine O_yy 94 hs rfl rfl (Y_move rfl ?_)
       refine O_yy 94 hs rfl rfl (Y_cmpT rfl rfl rfl (by omega) ?_)
       refine O_yy 86 hs rfl rfl (Y_pickT rfl rfl ?_)
       refine O_y hs (Y_pickF rfl rfl ?_)
       refine O_m rfl ?_
       refine O_yy 100 hs rfl rfl (Y_move rfl ?_)
       refine O_yy 100 hs rfl rfl (Y_len Tryz.underlying22 rfl ?_)
       refine O_yy 100 hs rfl rfl (Y_cmpT rfl rfl rfl (by rw [hc3]; rfl) ?_)
       refine O_y hs (Y_pickT rfl rfl ?_)
       refine O_m rfl ?_
       refine O_yy 105 hs rfl rfl (Y_move rfl ?_)
       refine O_y hs (Y_pickT rfl rfl ?_)
       refine O_a rfl ?_
       refine O_nil (T_kp [4] rfl ?_)
       refine T_ret ?_
       refine Rt_fin (vs := [_]) Tryz.results8 rfl ⟨rfl, trivial⟩ ?_
       try dsimp only [tup]
       exact ⟨_, [], hs.done, rfl, rfl⟩
    ·
     dsimp only [cmpP] at h62
     refine O_m rfl ?_
     refine O_no 63 rfl rfl ?_
     refine O_no 63 rfl rfl ?_
     refine O_no 63 rfl rfl ?_
     refine O_no 63 rfl rfl ?_
     refine O_no 63 rfl rfl ?_
     refine O_y hs (Y_pickF rfl rfl ?_)
     refine O_m rfl ?_
     refine O_no 70 rfl rfl ?_
     refine O_no 70 rfl rfl ?_
     refine O_no 70 rfl rfl ?_
     refine O_no 70 rfl rfl ?_
     refine O_no 70 rfl rfl ?_
     refine O_y hs (Y_pickF rfl rfl ?_)
     refine O_nil (T_kp [5, 6, 7, 8, 9, 10, 11, 76] rfl ?_)
     refine T_condF rfl (T_exit ?_)
     have hcs := cut_cases hK hrt hno hj hjw (.inl (by omega))
     refine T_seq (T_region rfl ?_)
     rcases hcs with ⟨hc1, hc2, hc3⟩ | ⟨hc1, hc2, hc4, hc3⟩
     ·
      refine O_m rfl ?_
      refine O_y hs (Y_cmpT rfl rfl rfl (hc1) ?_)
      refine O_m rfl ?_
      refine O_yy 81 hs rfl rfl (Y_move rfl ?_)
      refine O_yy 81 hs rfl rfl (Y_move rfl ?_)
      refine O_yy 81 hs rfl rfl (Y_cmpT rfl rfl rfl (by omega) ?_)
      refine O_y hs (Y_pickT rfl rfl ?_)
      refine O_m rfl ?_
      refine O_no 86 rfl rfl ?_
      refine O_no 86 rfl rfl ?_
      refine O_no 86 rfl rfl ?_
      refine O_noU 89 rfl rfl ?_
      refine O_noU 89 rfl rfl ?_
      refine O_noU 89 rfl rfl ?_
      refine O_no 86 rfl rfl ?_
      refine O_no 86 rfl rfl ?_
      refine O_noU 94 rfl rfl ?_
      refine O_noU 94 rfl rfl ?_
      refine O_noU 94 rfl rfl ?_
      refine O_no 86 rfl rfl ?_
      refine O_y hs (Y_pickT rfl rfl ?_)
      refine O_m rfl ?_
      refine O_yy 100 hs rfl rfl (Y_move rfl ?_)
      refine O_yy 100 hs rfl rfl (Y_len Tryz.underlying22 rfl ?_)
      refine O_yy 100 hs rfl rfl (Y_cmpT rfl rfl rfl (by rw [hc3]; rfl) ?_)
      refine O_y hs (Y_pickT rfl rfl ?_)
      refine O_m rfl ?_
      refine O_yy 105 hs rfl rfl (Y_move rfl ?_)
      refine O_y hs (Y_pickT rfl rfl ?_)
      refine O_a rfl ?_
      refine O_nil (T_kp [4] rfl ?_)
      refine T_ret ?_
      refine Rt_fin (vs := [_]) Tryz.results8 rfl ⟨rfl, trivial⟩ ?_
      try dsimp only [tup]
      exact ⟨_, [], hs.done, rfl, rfl⟩
     ·
      refine O_m rfl ?_
      refine O_y hs (Y_cmpF rfl rfl rfl (by rw [hc1]; decide) ?_)
      refine O_m rfl ?_
      refine O_no 81 rfl rfl ?_
      refine O_no 81 rfl rfl ?_
      refine O_no 81 rfl rfl ?_
      refine O_y hs (Y_pickF rfl rfl ?_)
      refine O_m rfl ?_
      refine O_yy 86 hs rfl rfl (Y_move rfl ?_)
      refine O_yy 86 hs rfl rfl (Y_cmpT rfl rfl rfl (hc1) ?_)
      refine O_yy 86 hs rfl rfl (Y_move rfl ?_)
      refine O_yy 89 hs rfl rfl (Y_move rfl ?_)
      refine O_yy 89 hs rfl rfl (Y_move rfl ?_)
      refine O_yy 89 hs rfl rfl (Y_cmpT rfl rfl rfl (by omega) ?_)
      refine O_yy 86 hs rfl rfl (Y_pickT rfl rfl ?_)
      refine O_yy 86 hs rfl rfl (Y_move rfl ?_)
      refine O_yy 94 hs rfl rfl (Y_move rfl ?_)
      refine O_yy 94 hs rfl rfl (Y_move rfl ?_)
      refine O_yy 94 hs rfl rfl (Y_cmpT rfl rfl rfl (by omega) ?_)
      refine O_yy 86 hs rfl rfl (Y_pickT rfl rfl ?_)
      refine O_y hs (Y_pickF rfl rfl ?_)
      refine O_m rfl ?_
      refine O_yy 100 hs rfl rfl (Y_move rfl ?_)
      refine O_yy 100 hs rfl rfl (Y_len Tryz.underlying22 rfl ?_)
      refine O_yy 100 hs rfl rfl (Y_cmpT rfl rfl rfl (by rw [hc3]; rfl) ?_)
      refine O_y hs (Y_pickT rfl rfl ?_)
      refine O_m rfl ?_
      refine O_yy 105 hs rfl rfl (Y_move rfl ?_)
      refine O_y hs (Y_pickT rfl rfl ?_)
      refine O_a rfl ?_
      refine O_nil (T_kp [4] rfl ?_)
      refine T_ret ?_
      refine Rt_fin (vs := [_]) Tryz.results8 rfl ⟨rfl, trivial⟩ ?_
      try dsimp only [tup]
      exact ⟨_, [], hs.done, rfl, rfl⟩

end Go.Proofs.YtcnljflihhggiaaGreatDoor
