/- The walk of the law ScriptLinesConcatenate: the call returns true, whatever its arguments read, and changes nothing. -/
import Derived.Test.YtcnljflihhggiaaGreatDoorExWalks5
import Derived.Test.YtcnljflihhggiaaGreatDoorCut
import Derived.Test.YtcnljflihhggiaaGreatDoorProg
import Derived.Test.YtcnljflihhggiaaGreatDoorPlain
import Derived.Test.YtcnljflihhggiaaGreatDoorExThin
import Derived.Test.YtcnljflihhggiaaGreatDoorExOrders
import Derived.Test.YtcnljflihhggiaaGreatDoorExMut
import Derived.Test.YtcnljflihhggiaaGreatDoorShelf
namespace Go.Proofs.YtcnljflihhggiaaGreatDoor
open Go Go.Ex Go.RowKit


def U16P (_ : Ghost) (cs : List Value) (p : UInt16 × UInt16) : Prop := cs = [.int .u16 (p.1.toNat : Int), .int .u16 (p.2.toNat : Int)]
def U16s (G : Ghost) (v : Value) (l : List (UInt16 × UInt16)) : Prop := LstR 2 U16P G v l
theorem U16s.mono {G G' : Ghost} (h : G.le G') {v : Value} {l : List (UInt16 × UInt16)} (hl : U16s G v l) : U16s G' v l := LstR.mono (R := U16P) (G := G) (G' := G') (fun _ _ he => he) h hl
theorem parse_len {s : List UInt8} : (outE (parseP s)).length ≤ 400 := by
  cases h : parseP s with
  | error e => simp [outE]
  | ok l =>
    unfold parseP at h
    split at h
    · cases h
    · obtain ⟨_, _, h3⟩ := parse_back _ 0 0 l (Nat.zero_le _) h
      show l.length ≤ 400
      rcases h3 with rfl | h3 | h3
      · simp
      · omega
      · omega
theorem made_bl (l : List Ev) : ∀ e ∈ madeL l, e.b.length ≤ 400000 := fun e he => by have := madeL_b l e he; omega
theorem u16_wrap (x : UInt16) : IntKind.i64.wrap (x.toNat : Int) = (x.toNat : Int) := wrap64_eq (by have := x.toNat_lt; omega)
theorem str_iff {a b : List UInt8} (h : a = b) : ((⟨a.toArray⟩ : ByteArray).data.toList = (⟨b.toArray⟩ : ByteArray).data.toList) ↔ true = true := ⟨fun _ => rfl, fun _ => by rw [h]⟩
/-- What was parsed can be written: its size. -/
theorem parsed_ok {s : List UInt8} {l : List Ev} (h : parseP s = .ok l) : (∀ e ∈ l, e.b.length ≤ 400000) ∧ (∀ k, (∀ i (hi : i < l.length), i < k → wrE l[i] = true) → (linesT (l.take k)).length ≤ 900000) ∧ l.length ≤ 400 := by
  have h4 : s.length ≤ 4000 := by
    unfold parseP at h
    split at h
    · cases h
    · omega
  have h5 : parseG s s.length 0 0 = .ok l := by unfold parseP at h; rwa [if_neg (by omega)] at h
  obtain ⟨hw, ht, hn⟩ := parse_back _ 0 0 l (Nat.zero_le _) h5
  rw [List.drop_zero] at ht
  have hsum : ∀ (l : List Ev) (e : Ev), e ∈ l → (lineT e).length ≤ (linesT l).length := by
    intro l
    induction l with
    | nil => intro e he; cases he
    | cons a l ih =>
      intro e he
      rw [show linesT (a :: l) = lineT a ++ linesT l from rfl, List.length_append]
      rcases List.mem_cons.1 he with rfl | he
      · omega
      · have := ih e he; omega
  refine ⟨fun e he => ?_, fun k _ => ?_, by rcases hn with rfl | hn | hn; simp; omega; omega⟩
  · have h6 := hsum l e he
    rw [← ht] at h6
    have hwe := hw e he
    rcases hwe.b with hb | hb
    · have h7 : (hexT e.b).length ≤ (lineT e).length := by
        unfold lineT optT
        rw [hb]
        simp only [List.length_append, if_true, List.length_cons]; omega
      have h8 : e.b.length ≤ (hexT e.b).length := by
        unfold hexT
        split
        · simp; omega
        · rw [hexP_len]; omega
      omega
    · rw [hb]; simp
  · have h6 : (linesT (l.take k)).length ≤ (linesT l).length := by
      have : linesT l = linesT (l.take k) ++ linesT (l.drop k) := by unfold linesT; rw [← List.flatMap_append, List.take_append_drop]
      rw [this, List.length_append]; omega
    rw [← ht] at h6; omega
/-- No error's code is 0. -/
def NZ {α : Type} (r : Except Er α) : Prop := ∀ e, r = .error e → e.1 ≠ 0
theorem NZ.ok {α : Type} {a : α} : NZ (.ok a : Except Er α) := fun _ h => by cases h
theorem NZ.er {α : Type} {c : Int} {q : Nat} (h : c ≠ 0) : NZ (.error (c, q) : Except Er α) := fun e he => by injection he with he; subst he; exact h
theorem exp_nz (s : List UInt8) (q : Nat) (b : UInt8) : NZ (expP s q b) := by
  unfold expP; split
  · exact NZ.er (by decide)
  · split
    · exact NZ.ok
    · exact NZ.er (by decide)
theorem word_nz (s : List UInt8) (q : Nat) : NZ (wordP s q) := by
  unfold wordP; split
  · exact NZ.er (by decide)
  · split
    · exact NZ.er (by decide)
    · exact NZ.ok
theorem num_nz (s : List UInt8) (q : Nat) : NZ (numP s q) := by
  unfold numP
  have h1 := exp_nz s q 32
  cases he : expP s q 32 with
  | error e => rw [he] at h1; exact fun e' h => h1 e' (by injection h with h; rw [h])
  | ok q1 =>
    dsimp only
    have h2 := word_nz s q1
    cases hw : wordP s q1 with
    | error e => rw [hw] at h2; exact fun e' h => h2 e' (by injection h with h; rw [h])
    | ok r =>
      dsimp only; unfold numV; split
      · exact NZ.er (by decide)
      · split
        · exact NZ.er (by decide)
        · exact NZ.ok
theorem bytes_nz (s : List UInt8) (q : Nat) : NZ (bytesP s q) := by
  unfold bytesP
  have h1 := exp_nz s q 32
  cases he : expP s q 32 with
  | error e => rw [he] at h1; exact fun e' h => h1 e' (by injection h with h; rw [h])
  | ok q1 =>
    dsimp only
    have h2 := word_nz s q1
    cases hw : wordP s q1 with
    | error e => rw [hw] at h2; exact fun e' h => h2 e' (by injection h with h; rw [h])
    | ok r =>
      dsimp only; unfold hexW; split
      · exact NZ.ok
      · split
        · exact NZ.er (by decide)
        · exact NZ.ok
theorem a_nz (s : List UInt8) (u : Bool) (q : Nat) : NZ (aP s u q) := by unfold aP; split; exact num_nz s q; exact NZ.ok
theorem b_nz (s : List UInt8) (u : Bool) (q : Nat) : NZ (bP s u q) := by unfold bP; split; exact bytes_nz s q; exact NZ.ok
theorem args_nz (s : List UInt8) (k q : Nat) : NZ (argsP s k q) := by
  unfold argsP
  have h1 := a_nz s (useA k) q
  cases ha : aP s (useA k) q with
  | error e => rw [ha] at h1; exact fun e' h => h1 e' (by injection h with h; rw [h])
  | ok r =>
    dsimp only
    have h2 := b_nz s (useB k) r.2
    cases hb : bP s (useB k) r.2 with
    | error e => rw [hb] at h2; exact fun e' h => h2 e' (by injection h with h; rw [h])
    | ok r2 =>
      dsimp only
      have h3 := a_nz s (useC k) r2.2
      cases hc : aP s (useC k) r2.2 with
      | error e => rw [hc] at h3; exact fun e' h => h3 e' (by injection h with h; rw [h])
      | ok r3 =>
        dsimp only
        have h4 := exp_nz s r3.2 10
        cases he : expP s r3.2 10 with
        | error e => rw [he] at h4; exact fun e' h => h4 e' (by injection h with h; rw [h])
        | ok q4 => exact NZ.ok
theorem event_nz (s : List UInt8) (q : Nat) : NZ (eventP s q) := by
  unfold eventP
  have h1 := word_nz s q
  cases hw : wordP s q with
  | error e => rw [hw] at h1; exact fun e' h => h1 e' (by injection h with h; rw [h])
  | ok r =>
    dsimp only
    split
    · exact NZ.er (by decide)
    · exact args_nz _ _ _
theorem parseG_nz (s : List UInt8) : ∀ (f q n : Nat), s.length ≤ q + f → NZ (parseG s f q n)
  | 0, q, n, h => by unfold parseG; rw [if_pos (by omega)]; exact NZ.ok
  | f + 1, q, n, h => by
    unfold parseG
    split
    · exact NZ.ok
    · split
      · exact NZ.er (by decide)
      · have h1 := event_nz s q
        cases he : eventP s q with
        | error e => rw [he] at h1; exact fun e' h => h1 e' (by injection h with h; rw [h])
        | ok r =>
          obtain ⟨e, q1⟩ := r
          dsimp only
          have h2 := (event_back he).2.2.1
          have h3 := line_pos e
          have ih := parseG_nz s f q1 (n + 1) (by omega)
          cases hg : parseG s f q1 (n + 1) with
          | error e => rw [hg] at ih; exact fun e' h => ih e' (by injection h with h; rw [h])
          | ok l => exact NZ.ok
theorem parse_zero {s : List UInt8} (h : outC (parseP s) = 0) : ∃ l, parseP s = .ok l := by
  cases hp : parseP s with
  | ok l => exact ⟨l, rfl⟩
  | error e =>
    rw [hp] at h
    unfold parseP at hp
    split at hp
    · injection hp with hp; subst hp; cases h
    · exact absurd h (parseG_nz s _ 0 0 (by omega) e hp)


theorem cut_cases {T : List UInt8} {K j : Nat} {l : List Ev} (hK : K ≤ T.length) (hr : parseP T = .ok l) (hno : ¬ (K = 0 ∨ T[K - 1]? = some 10)) (hj : j ≤ K) (hw : ∀ i (hi : i < T.length), j ≤ i → i < K → wB T[i] = true) (h0 : j = 0 ∨ ∃ h : j - 1 < T.length, wB T[j - 1] = false) :
    (outC (parseP (T.take K)) = 21 ∧ outA (parseP (T.take K)) = K ∧ outE (parseP (T.take K)) = []) ∨ (outC (parseP (T.take K)) = 20 ∧ outA (parseP (T.take K)) = j ∧ j < K ∧ outE (parseP (T.take K)) = []) := by
  obtain ⟨e, he, hc⟩ := (cut_law hK hr).2 hno
  have hl : (T.take K).length = K := by rw [List.length_take]; omega
  have hlw : LwOk (T.take K) j := by
    refine ⟨by omega, fun i h h1 => ?_, ?_⟩
    · rw [List.getElem_take]; exact hw i (by omega) h1 (by omega)
    · rcases h0 with h0 | ⟨h, h0⟩
      · exact .inl h0
      · rcases Nat.eq_zero_or_pos j with hz | hz
        · exact .inl hz
        · exact .inr ⟨by omega, by rw [List.getElem_take]; exact h0⟩
  rw [he]
  rcases hc with rfl | ⟨p, rfl, hp, hlt⟩
  · left; exact ⟨rfl, hl, rfl⟩
  · right
    have := hp.one hlw
    subst this
    exact ⟨rfl, rfl, by omega, rfl⟩
theorem one_lst {G : Ghost} {cs : List (List Value)} {l : List Ev} (h : All2 (EvR G) cs l) : ∀ y ∈ cs.flatten, y.oneCell' = true := by
  induction cs generalizing l with
  | nil => intro y hy; cases hy
  | cons c cs ih =>
    match l, h with
    | e :: l, ⟨h1, h2⟩ =>
      intro y hy
      rw [List.flatten_cons] at hy
      rcases List.mem_append.1 hy with hy | hy
      · obtain ⟨v, rfl, hb⟩ := h1; exact one4 hb y hy
      · exact ih h2 y hy
theorem syncs_succ (k : Nat) : linesT (List.replicate (k + 1) syncE) = linesT (List.replicate k syncE) ++ [115, 121, 110, 99, 10] := by
  rw [List.replicate_succ', linesT, List.flatMap_append]
  show _ ++ (lineT syncE ++ []) = _
  rw [sync_line]; rfl
theorem EvCs.append {G : Ghost} {a b : List (List Value)} {x y : List Ev} (h1 : EvCs G a x) (h2 : EvCs G b y) : EvCs G (a ++ b) (x ++ y) :=
  ⟨All2.append h1.1 h2.1, fun c hc => (List.mem_append.1 hc).elim (h1.2 c) (h2.2 c)⟩
theorem cat_wr (a b : List Ev) : ∀ e ∈ madeL a ++ madeL b, Wr e := fun e he => (List.mem_append.1 he).elim (madeL_wr a e) (madeL_wr b e)


theorem one5 {a b c d e : Int} {k : IntKind} : ∀ y ∈ [Value.int k a, .int k b, .int k c, .int k d, .int k e], y.oneCell' = true := by
  intro y hy
  simp only [List.mem_cons, List.not_mem_nil, or_false] at hy
  rcases hy with rfl | rfl | rfl | rfl | rfl <;> rfl


set_option maxHeartbeats 4000000 in
set_option maxRecDepth 10000 in
theorem lawCat {G : Ghost} {v1 v2 : Value} {a b : List Ev} {z : UInt8} (hx : Evs G v1 a) (ha : a.length ≤ 1048576) (hy : Evs G v2 b) (hb : b.length ≤ 1048576) (hT : Tab10 G) :
  FnOk Tryz.prog 9 [v1, v2, .int .u8 (z.toNat : Int)] G [] fun r _ H' => H' = [] ∧ r = .bool true := by
 refine FnOk.of_T [(0, _), (1, _), (2, _)] Tryz.func9 rfl Tryz.ntmps9 (by simp) rfl fun w0 hs => ?_
 have hx0 := hx
 have hy0 := hy
 have hT0 := hT
 refine T_seq (T_region rfl ?_)
 refine O_a rfl ?_
 refine O_nil (T_kp [0, 1, 2] rfl ?_)
 refine T_seq (T_region rfl ?_)
 refine O_s (S_call (H1 := []) hs rfl Tryz.func11 rfl (by kernel_rfl) (sanity_ok hT) fun v1 G' H' _ hR hG21 hs => ?_)
 obtain ⟨rfl, rfl⟩ := hR
 replace hs : St _ _ [] _ := hs
 replace hx := hx.mono hG21
 replace hy := hy.mono hG21
 replace hT := hT.mono hG21
 refine O_a rfl ?_
 refine O_nil (T_kp [0, 1, 2, 7] rfl ?_)
 refine T_seq (T_region rfl ?_)
 refine O_m rfl ?_
 refine O_s (S_call (H1 := []) hs rfl Tryz.func13 rfl (by kernel_rfl) (made_ok hx) fun v2 G' H' _ hR hG23 hs => ?_)
 obtain ⟨rfl, hma⟩ := hR
 replace hs : St _ _ [] _ := hs
 replace hx := hx.mono hG23
 replace hy := hy.mono hG23
 replace hT := hT.mono hG23
 refine O_m rfl ?_
 refine O_s (S_call (H1 := []) hs rfl Tryz.func13 rfl (by kernel_rfl) (made_ok hy) fun v3 G' H' _ hR hG25 hs => ?_)
 obtain ⟨rfl, hmb⟩ := hR
 replace hs : St _ _ [] _ := hs
 replace hx := hx.mono hG25
 replace hy := hy.mono hG25
 replace hT := hT.mono hG25
 replace hma := hma.mono hG25
 refine O_a rfl ?_
 refine O_a rfl ?_
 refine O_nil (T_kp [2, 7, 8, 9] rfl ?_)
 refine T_seq (T_region rfl ?_)
 refine O_m rfl ?_
 refine O_s (S_call (H1 := []) hs rfl Tryz.func17 rfl (by kernel_rfl) (fmt_ok hma hT (made_bl a) (made_hlen a) (by have := madeL_len a; omega)) fun v4 G' H' _ hR hG27 hs => ?_)
 obtain ⟨rfl, rfl⟩ := hR
 replace hs : St _ _ [] _ := hs
 replace hx := hx.mono hG27
 replace hy := hy.mono hG27
 replace hT := hT.mono hG27
 replace hma := hma.mono hG27
 replace hmb := hmb.mono hG27
 refine O_m rfl ?_
 refine O_s (S_call (H1 := []) hs rfl Tryz.func17 rfl (by kernel_rfl) (fmt_ok hmb hT (made_bl b) (made_hlen b) (by have := madeL_len b; omega)) fun v5 G' H' _ hR hG29 hs => ?_)
 obtain ⟨rfl, rfl⟩ := hR
 replace hs : St _ _ [] _ := hs
 replace hx := hx.mono hG29
 replace hy := hy.mono hG29
 replace hT := hT.mono hG29
 replace hma := hma.mono hG29
 replace hmb := hmb.mono hG29
 refine O_y hs (Y_cat rfl rfl (by have := fmt_made_len a; have := fmt_made_len b; omega) ?_)
 refine O_a rfl ?_
 refine O_nil (T_kp [2, 7, 8, 9, 10] rfl ?_)
 refine T_seq (T_region rfl ?_)
 refine O_s (S_lit hs Tryz.underlying22 Tryz.sizeOf36 Tryz.zeroValue36 rfl rfl (by decide) (by decide) rfl (cs := []) rfl rfl fun v6 _ hs shv6 => ?_)
 refine O_m rfl ?_
 obtain ⟨ca, hsa, hca1, hca2⟩ := id hma
 have hca : EvCs _ ca (madeL a) := ⟨hca1, hca2⟩
 refine O_s (S_append hs Tryz.underlying22 TI36 rfl (by decide) rfl rfl (hsa) (one_lst hca.1) (by have := madeL_len a; omega) (by have := madeL_len a; omega) fun v7 _ hs => ?_)
 refine O_a rfl ?_
 refine O_nil (T_kp [2, 7, 9, 10, 11] rfl ?_)
 refine T_seq (T_region rfl ?_)
 refine O_m rfl ?_
 refine O_m rfl ?_
 obtain ⟨cb, hsb, hcb1, hcb2⟩ := id hmb
 have hcb : EvCs _ cb (madeL b) := ⟨hcb1, hcb2⟩
 refine O_s (S_append hs Tryz.underlying22 TI36 rfl (by decide) rfl rfl (hsb) (one_lst hcb.1) (by have := madeL_len a; have := madeL_len b; omega) (by have := madeL_len a; have := madeL_len b; omega) fun v8 _ hs => ?_)
 refine O_a rfl ?_
 refine O_nil (T_kp [2, 7, 10, 11] rfl ?_)
 obtain ⟨G9, hG9, hbf, hs⟩ := hs.fixRow noM
 replace hx := hx.mono hG9
 replace hy := hy.mono hG9
 replace hT := hT.mono hG9
 replace hma := hma.mono hG9
 replace hmb := hmb.mono hG9
 have hbo := evs_of hbf (l := madeL a ++ madeL b) (cs := ca ++ cb) (by simp) (by simp) ((hca.append hcb).mono hG9)
 refine T_seq (T_region rfl ?_)
 refine O_m rfl ?_
 refine O_s (S_call (H1 := []) hs rfl Tryz.func14 rfl (by kernel_rfl) (parse_is (s := (fmtT (madeL a) ++ fmtT (madeL b))) rfl (by have := fmt_made_len a; have := fmt_made_len b; rw [List.length_append]; omega)) fun v9 G' H' _ hR hG39 hs => ?_)
 obtain ⟨rfl, A39, c39, hE39, rfl⟩ := hR
 replace hs : St _ _ [] _ := hs
 replace hx := hx.mono hG39
 replace hy := hy.mono hG39
 replace hT := hT.mono hG39
 replace hma := hma.mono hG39
 replace hmb := hmb.mono hG39
 replace hbo := hbo.mono hG39
 refine O_m rfl ?_
 refine O_y hs (Y_extract rfl rfl ?_)
 refine O_y hs (Y_extract rfl rfl ?_)
 refine O_y hs (Y_extract rfl rfl ?_)
 refine O_a rfl ?_
 refine O_a rfl ?_
 refine O_a rfl ?_
 refine O_nil (T_kp [2, 7, 10, 11, 12, 13, 14] rfl ?_)
 have hsz := bsz (fmtT (madeL a) ++ fmtT (madeL b))
 refine T_seq (T_seq (T_region rfl ?_))
 refine O_m rfl ?_
 refine O_y hs (Y_lenS Tryz.underlying9 rfl ?_)
 refine O_y hs (Y_cmpS rfl rfl rfl (fun h45 => ?_) (fun h45 => ?_))
 ·
  dsimp only [cmpP] at h45
  refine O_nil (T_kp [2, 7, 11, 12, 13, 14, 45] rfl ?_)
  have hbig := parse_big (s := (fmtT (madeL a) ++ fmtT (madeL b))) (by omega)
  refine T_condT rfl (T_seq (T_region rfl ?_))
  refine O_m rfl ?_
  refine O_y hs (Y_len Tryz.underlying22 rfl ?_)
  refine O_y hs (Y_cmpT rfl rfl rfl (by rw [hbig]; rfl) ?_)
  refine O_m rfl ?_
  refine O_yy 49 hs rfl rfl (Y_move rfl ?_)
  refine O_yy 49 hs rfl rfl (Y_cmpT rfl rfl rfl (by rw [hbig]; rfl) ?_)
  refine O_y hs (Y_pickT rfl rfl ?_)
  refine O_m rfl ?_
  refine O_yy 53 hs rfl rfl (Y_move rfl ?_)
  refine O_yy 53 hs rfl rfl (Y_cmpT rfl rfl rfl (by rw [hbig]; rfl) ?_)
  refine O_y hs (Y_pickT rfl rfl ?_)
  refine O_m rfl ?_
  refine O_yy 57 hs rfl rfl (Y_move rfl ?_)
  refine O_y hs (Y_pickT rfl rfl ?_)
  refine O_a rfl ?_
  refine O_nil (T_kp [6] rfl ?_)
  refine T_ret ?_
  refine Rt_fin (vs := [_]) Tryz.results9 rfl ⟨rfl, trivial⟩ ?_
  try dsimp only [tup]
  exact ⟨_, [], hs.done, rfl, rfl⟩
 ·
  dsimp only [cmpP] at h45
  refine O_nil (T_kp [2, 7, 11, 12, 13, 14, 45] rfl ?_)
  refine T_condF rfl (T_skip ?_)
  have hcw := cat_wr a b
  have hcl : (madeL a ++ madeL b).length ≤ 40 := by have := madeL_len a; have := madeL_len b; rw [List.length_append]; omega
  have hfc := fmt_cat (madeL_wr a) (madeL_wr b)
  have hrt : parseP (fmtT (madeL a) ++ fmtT (madeL b)) = .ok (madeL a ++ madeL b) := by rw [hfc]; exact round_trip hcw (by omega) (by rw [← hfc]; omega)
  refine T_seq (T_region rfl ?_)
  refine O_m rfl ?_
  refine O_y hs (Y_conv Tryz.underlying5 Tryz.underlying3 (c := (z.toNat : Int)) rfl (wrap64_byte _) ?_)
  refine O_y hs (Y_rem (c := ((z.toNat % 12 : Nat) : Int)) rfl rfl (by omega) (by decide) (by omega) ?_)
  obtain ⟨N, hN⟩ : ∃ N, N = 395 + z.toNat % 12 := ⟨_, rfl⟩
  have hN4 : N ≤ 406 := by omega
  refine O_y hs (Y_add (c := (N : Int)) rfl rfl (by rw [hN]; omega) (by omega) ?_)
  refine O_a rfl ?_
  refine O_nil (T_kp [7, 11, 12, 13, 14, 15] rfl ?_)
  refine T_seq (T_region rfl ?_)
  refine O_s (S_lit hs Tryz.underlying25 Tryz.sizeOf5 Tryz.zeroValue5 rfl rfl (by decide) (by decide) rfl (cs := []) rfl rfl fun v10 _ hs shv10 => ?_)
  refine O_a rfl ?_
  refine O_nil (T_kp [7, 11, 12, 13, 14, 15, 16] rfl ?_)
  refine T_seq (T_seq (T_region rfl ?_))
  refine O_a rfl ?_
  refine O_nil (T_kp [7, 11, 12, 13, 14, 15, 16, 17] rfl ?_)
  refine T_block (T_loop (fun m E w => ∃ (k : Nat) (v16 : Value) (G2 : Ghost), Evs G2 (.slice A39 (outE (parseP (fmtT (madeL a) ++ fmtT (madeL b)))).length c39) (outE (parseP (fmtT (madeL a) ++ fmtT (madeL b)))) ∧ Evs G2 v8 (madeL a ++ madeL b) ∧ k ≤ N ∧ m = N - k ∧ E = ⟨[], [(7, .bool true), (11, v8), (12, .slice A39 (outE (parseP (fmtT (madeL a) ++ fmtT (madeL b)))).length c39), (13, .int .i64 (outA (parseP (fmtT (madeL a) ++ fmtT (madeL b))) : Int)), (14, .int .i64 (outC (parseP (fmtT (madeL a) ++ fmtT (madeL b))))), (15, .int .i64 ((N : Int))), (16, v16), (17, .int .i64 (k : Int))]⟩ ∧ St ⟨w0, G, feet []⟩ G2 [.row 5 1 v16 (linesT (List.replicate k syncE)).length ((linesT (List.replicate k syncE)).map byteV)] w) (L := [(7, _), (11, _), (12, _), (13, _), (14, _), (15, _), (16, _), (17, _)]) ⟨rfl, rfl, rfl, rfl, rfl, rfl, rfl, rfl, trivial⟩ (⟨0, _, _, hE39, hbo, by omega, rfl, rfl, hs⟩) fun m E w hI => ?_)
  obtain ⟨k, v16, G2, hE39, hbo, hk, rfl, rfl, hs⟩ := hI
  refine T_seq (T_seq (T_region rfl ?_))
  refine O_m rfl ?_
  refine O_m rfl ?_
  refine O_y hs (Y_cmpS rfl rfl rfl (fun h67 => ?_) (fun h67 => ?_))
  ·
   dsimp only [cmpP] at h67
   refine O_nil (T_kp [7, 11, 12, 13, 14, 15, 16, 17, 67] rfl ?_)
   refine T_condT rfl (T_skip ?_)
   refine T_seq (T_block (T_region rfl ?_))
   refine O_m rfl ?_
   refine O_s (S_lit hs Tryz.underlying25 Tryz.sizeOf5 Tryz.zeroValue5 rfl rfl (by decide) (by decide) rfl (cs := [_, _, _, _, _]) rfl rfl fun v11 _ hs shv11 => ?_)
   refine O_s (S_mark hs shv11 rfl Tryz.underlying25 Tryz.underlying5 noM fun _ _ hG72 hl72 hs => ?_)
   replace hE39 := hE39.mono hG72
   replace hbo := hbo.mono hG72
   refine O_s (S_append hs Tryz.underlying25 TI5 rfl (by decide) rfl rfl (hl72) (one5) (by rw [syncs_len]; omega) (by rw [syncs_len]; omega) fun v12 _ hs => ?_)
   refine O_a rfl ?_
   refine O_nil (T_kp [7, 11, 12, 13, 14, 15, 16, 17] rfl ?_)
   refine T_region rfl ?_
   refine O_m rfl ?_
   refine O_y hs (Y_add (c := ((k + 1 : Nat) : Int)) rfl rfl (by omega) (by omega) ?_)
   refine O_a rfl ?_
   refine O_nil ⟨_, ?_, [(7, _), (11, _), (12, _), (13, _), (14, _), (15, _), (16, _), (17, _)], ⟨rfl, rfl, rfl, rfl, rfl, rfl, rfl, rfl, trivial⟩, ⟨k + 1, _, _, hE39, hbo, by omega, rfl, rfl, by rw [syncs_succ, List.map_append, List.length_append]; exact hs⟩⟩
   omega
  ·
   dsimp only [cmpP] at h67
   refine O_nil (T_kp [7, 11, 12, 13, 14, 15, 16, 17, 67] rfl ?_)
   refine T_condF rfl (T_exit ?_)
   obtain rfl : N = k := by omega
   obtain ⟨G9, hG9, hsy, hs⟩ := hs.fixRow noM
   replace hE39 := hE39.mono hG9
   replace hbo := hbo.mono hG9
   refine T_seq (T_region rfl ?_)
   refine O_m rfl ?_
   refine O_y hs (Y_str (bs := linesT (List.replicate N syncE)) Tryz.underlying25 Tryz.underlying5 Tryz.underlying9 rfl hsy ?_)
   refine O_s (S_call (H1 := []) hs rfl Tryz.func14 rfl (by kernel_rfl) (parse_is (s := (linesT (List.replicate N syncE))) rfl (by rw [syncs_len]; omega)) fun v13 G' H' _ hR hG77 hs => ?_)
   obtain ⟨rfl, A77, c77, hE77, rfl⟩ := hR
   replace hs : St _ _ [] _ := hs
   replace hE39 := hE39.mono hG77
   replace hbo := hbo.mono hG77
   refine O_m rfl ?_
   refine O_y hs (Y_extract rfl rfl ?_)
   refine O_y hs (Y_extract rfl rfl ?_)
   refine O_y hs (Y_extract rfl rfl ?_)
   refine O_a rfl ?_
   refine O_a rfl ?_
   refine O_a rfl ?_
   refine O_nil (T_kp [7, 11, 12, 13, 14, 15, 18, 19, 20] rfl ?_)
   refine T_seq (T_seq (T_region rfl ?_))
   refine O_m rfl ?_
   refine O_y hs (Y_cmpS rfl rfl rfl (fun h82 => ?_) (fun h82 => ?_))
   ·
    dsimp only [cmpP] at h82
    refine O_nil (T_kp [7, 11, 12, 13, 14, 15, 18, 19, 20, 82] rfl ?_)
    have hmy := many_big (n := N) (by omega) (by omega)
    refine T_condT rfl (T_seq (T_region rfl ?_))
    refine O_m rfl ?_
    refine O_m rfl ?_
    refine O_s (S_call (H1 := []) hs rfl Tryz.func16 rfl (by kernel_rfl) (same_yes hE39 hbo (by have := @parse_len (fmtT (madeL a) ++ fmtT (madeL b)); omega) (by rw [hrt]; rfl)) fun v14 G' H' _ hR hG85 hs => ?_)
    obtain ⟨rfl, rfl⟩ := hR
    replace hs : St _ _ [] _ := hs
    replace hE39 := hE39.mono hG85
    replace hbo := hbo.mono hG85
    replace hE77 := hE77.mono hG85
    refine O_m rfl ?_
    refine O_yy 86 hs rfl rfl (Y_move rfl ?_)
    refine O_yy 86 hs rfl rfl (Y_cmpT rfl rfl rfl (by rw [hrt]; rfl) ?_)
    refine O_y hs (Y_pickT rfl rfl ?_)
    refine O_m rfl ?_
    refine O_yy 90 hs rfl rfl (Y_move rfl ?_)
    refine O_yy 90 hs rfl rfl (Y_cmpT rfl rfl rfl (by rw [hrt]; rfl) ?_)
    refine O_y hs (Y_pickT rfl rfl ?_)
    refine O_m rfl ?_
    refine O_yy 94 hs rfl rfl (Y_move rfl ?_)
    refine O_yy 94 hs rfl rfl (Y_len Tryz.underlying22 rfl ?_)
    refine O_yy 94 hs rfl rfl (Y_cmpT rfl rfl rfl (by rw [hmy]; rfl) ?_)
    refine O_y hs (Y_pickT rfl rfl ?_)
    refine O_m rfl ?_
    refine O_yy 99 hs rfl rfl (Y_move rfl ?_)
    refine O_yy 99 hs rfl rfl (Y_cmpT rfl rfl rfl (by rw [hmy]; rfl) ?_)
    refine O_y hs (Y_pickT rfl rfl ?_)
    refine O_m rfl ?_
    refine O_yy 103 hs rfl rfl (Y_move rfl ?_)
    refine O_yy 103 hs rfl rfl (Y_cmpT rfl rfl rfl (by rw [hmy]; rfl) ?_)
    refine O_y hs (Y_pickT rfl rfl ?_)
    refine O_m rfl ?_
    refine O_yy 107 hs rfl rfl (Y_move rfl ?_)
    refine O_y hs (Y_pickT rfl rfl ?_)
    refine O_a rfl ?_
    refine O_nil (T_kp [6] rfl ?_)
    refine T_ret ?_
    refine Rt_fin (vs := [_]) Tryz.results9 rfl ⟨rfl, trivial⟩ ?_
    try dsimp only [tup]
    exact ⟨_, [], hs.done, rfl, rfl⟩
   ·
    dsimp only [cmpP] at h82
    refine O_nil (T_kp [7, 11, 12, 13, 14, 15, 18, 19, 20, 82] rfl ?_)
    refine T_condF rfl (T_skip ?_)
    have hmy := many_ok (n := N) (by omega)
    refine T_seq (T_region rfl ?_)
    refine O_m rfl ?_
    refine O_m rfl ?_
    refine O_s (S_call (H1 := []) hs rfl Tryz.func16 rfl (by kernel_rfl) (same_yes hE39 hbo (by have := @parse_len (fmtT (madeL a) ++ fmtT (madeL b)); omega) (by rw [hrt]; rfl)) fun v15 G' H' _ hR hG112 hs => ?_)
    obtain ⟨rfl, rfl⟩ := hR
    replace hs : St _ _ [] _ := hs
    replace hE39 := hE39.mono hG112
    replace hbo := hbo.mono hG112
    replace hE77 := hE77.mono hG112
    refine O_m rfl ?_
    refine O_yy 113 hs rfl rfl (Y_move rfl ?_)
    refine O_yy 113 hs rfl rfl (Y_cmpT rfl rfl rfl (by rw [hrt]; rfl) ?_)
    refine O_y hs (Y_pickT rfl rfl ?_)
    refine O_m rfl ?_
    refine O_yy 117 hs rfl rfl (Y_move rfl ?_)
    refine O_yy 117 hs rfl rfl (Y_cmpT rfl rfl rfl (by rw [hrt]; rfl) ?_)
    refine O_y hs (Y_pickT rfl rfl ?_)
    refine O_m rfl ?_
    refine O_yy 121 hs rfl rfl (Y_move rfl ?_)
    refine O_yy 121 hs rfl rfl (Y_len Tryz.underlying22 rfl ?_)
    refine O_yy 121 hs rfl rfl (Y_move rfl ?_)
    refine O_yy 121 hs rfl rfl (Y_cmpT rfl rfl rfl (by rw [hmy]; show ((List.replicate N syncE).length : Int) = (N : Int); rw [List.length_replicate]) ?_)
    refine O_y hs (Y_pickT rfl rfl ?_)
    refine O_m rfl ?_
    refine O_yy 127 hs rfl rfl (Y_move rfl ?_)
    refine O_yy 127 hs rfl rfl (Y_cmpT rfl rfl rfl (by rw [hmy]; rfl) ?_)
    refine O_y hs (Y_pickT rfl rfl ?_)
    refine O_m rfl ?_
    refine O_yy 131 hs rfl rfl (Y_move rfl ?_)
    refine O_yy 131 hs rfl rfl (Y_cmpT rfl rfl rfl (by rw [hmy]; rfl) ?_)
    refine O_y hs (Y_pickT rfl rfl ?_)
    refine O_m rfl ?_
    refine O_yy 135 hs rfl rfl (Y_move rfl ?_)
    refine O_y hs (Y_pickT rfl rfl ?_)
    refine O_a rfl ?_
    refine O_nil (T_kp [6] rfl ?_)
    refine T_ret ?_
    refine Rt_fin (vs := [_]) Tryz.results9 rfl ⟨rfl, trivial⟩ ?_
    try dsimp only [tup]
    exact ⟨_, [], hs.done, rfl, rfl⟩

end Go.Proofs.YtcnljflihhggiaaGreatDoor
