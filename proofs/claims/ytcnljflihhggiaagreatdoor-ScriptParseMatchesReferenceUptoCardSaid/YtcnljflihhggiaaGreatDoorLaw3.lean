/- The walk of the law ScriptParseMatchesReference: the call returns true, whatever its arguments read, and changes nothing. -/
import Derived.Test.YtcnljflihhggiaaGreatDoorExWalks5
import Derived.Test.YtcnljflihhggiaaGreatDoorProg
import Derived.Test.YtcnljflihhggiaaGreatDoorPlain
import Derived.Test.YtcnljflihhggiaaGreatDoorExThin
import Derived.Test.YtcnljflihhggiaaGreatDoorExOrders
import Derived.Test.YtcnljflihhggiaaGreatDoorExMut
import Derived.Test.YtcnljflihhggiaaGreatDoorShelf
namespace Go.Proofs.YtcnljflihhggiaaGreatDoor
open Go Go.Ex Go.RowKit


def U16P (_ : Ghost) (cs : List Value) (p : UInt16 × UInt16) : Prop := cs = [.int .u16 (p.1.toNat : Int), .int .u16 (p.2.toNat : Int)]
def U16s (G : Ghost) (v : Value) (l : List (UInt16 × UInt16)) : Prop := LstR 2 U16P G v l
theorem U16s.mono {G G' : Ghost} (h : G.le G') {v : Value} {l : List (UInt16 × UInt16)} (hl : U16s G v l) : U16s G' v l := LstR.mono (R := U16P) (G := G) (G' := G') (fun _ _ he => he) h hl
theorem parse_len {s : List UInt8} : (outE (parseP s)).length ≤ 400 := by
  cases h : parseP s with
  | error e => simp [outE]
  | ok l =>
    unfold parseP at h
    split at h
    · cases h
    · obtain ⟨_, _, h3⟩ := parse_back _ 0 0 l (Nat.zero_le _) h
      show l.length ≤ 400
      rcases h3 with rfl | h3 | h3
      · simp
      · omega
      · omega
theorem made_bl (l : List Ev) : ∀ e ∈ madeL l, e.b.length ≤ 400000 := fun e he => by have := madeL_b l e he; omega
theorem u16_wrap (x : UInt16) : IntKind.i64.wrap (x.toNat : Int) = (x.toNat : Int) := wrap64_eq (by have := x.toNat_lt; omega)
theorem str_iff {a b : List UInt8} (h : a = b) : ((⟨a.toArray⟩ : ByteArray).data.toList = (⟨b.toArray⟩ : ByteArray).data.toList) ↔ true = true := ⟨fun _ => rfl, fun _ => by rw [h]⟩
/-- What was parsed can be written: its size. -/
theorem parsed_ok {s : List UInt8} {l : List Ev} (h : parseP s = .ok l) : (∀ e ∈ l, e.b.length ≤ 400000) ∧ (∀ k, (∀ i (hi : i < l.length), i < k → wrE l[i] = true) → (linesT (l.take k)).length ≤ 900000) ∧ l.length ≤ 400 := by
  have h4 : s.length ≤ 4000 := by
    unfold parseP at h
    split at h
    · cases h
    · omega
  have h5 : parseG s s.length 0 0 = .ok l := by unfold parseP at h; rwa [if_neg (by omega)] at h
  obtain ⟨hw, ht, hn⟩ := parse_back _ 0 0 l (Nat.zero_le _) h5
  rw [List.drop_zero] at ht
  have hsum : ∀ (l : List Ev) (e : Ev), e ∈ l → (lineT e).length ≤ (linesT l).length := by
    intro l
    induction l with
    | nil => intro e he; cases he
    | cons a l ih =>
      intro e he
      rw [show linesT (a :: l) = lineT a ++ linesT l from rfl, List.length_append]
      rcases List.mem_cons.1 he with rfl | he
      · omega
      · have := ih e he; omega
  refine ⟨fun e he => ?_, fun k _ => ?_, by rcases hn with rfl | hn | hn; simp; omega; omega⟩
  · have h6 := hsum l e he
    rw [← ht] at h6
    have hwe := hw e he
    rcases hwe.b with hb | hb
    · have h7 : (hexT e.b).length ≤ (lineT e).length := by
        unfold lineT optT
        rw [hb]
        simp only [List.length_append, if_true, List.length_cons]; omega
      have h8 : e.b.length ≤ (hexT e.b).length := by
        unfold hexT
        split
        · simp; omega
        · rw [hexP_len]; omega
      omega
    · rw [hb]; simp
  · have h6 : (linesT (l.take k)).length ≤ (linesT l).length := by
      have : linesT l = linesT (l.take k) ++ linesT (l.drop k) := by unfold linesT; rw [← List.flatMap_append, List.take_append_drop]
      rw [this, List.length_append]; omega
    rw [← ht] at h6; omega
/-- No error's code is 0. -/
def NZ {α : Type} (r : Except Er α) : Prop := ∀ e, r = .error e → e.1 ≠ 0
theorem NZ.ok {α : Type} {a : α} : NZ (.ok a : Except Er α) := fun _ h => by cases h
theorem NZ.er {α : Type} {c : Int} {q : Nat} (h : c ≠ 0) : NZ (.error (c, q) : Except Er α) := fun e he => by injection he with he; subst he; exact h
theorem exp_nz (s : List UInt8) (q : Nat) (b : UInt8) : NZ (expP s q b) := by
  unfold expP; split
  · exact NZ.er (by decide)
  · split
    · exact NZ.ok
    · exact NZ.er (by decide)
theorem word_nz (s : List UInt8) (q : Nat) : NZ (wordP s q) := by
  unfold wordP; split
  · exact NZ.er (by decide)
  · split
    · exact NZ.er (by decide)
    · exact NZ.ok
theorem num_nz (s : List UInt8) (q : Nat) : NZ (numP s q) := by
  unfold numP
  have h1 := exp_nz s q 32
  cases he : expP s q 32 with
  | error e => rw [he] at h1; exact fun e' h => h1 e' (by injection h with h; rw [h])
  | ok q1 =>
    dsimp only
    have h2 := word_nz s q1
    cases hw : wordP s q1 with
    | error e => rw [hw] at h2; exact fun e' h => h2 e' (by injection h with h; rw [h])
    | ok r =>
      dsimp only; unfold numV; split
      · exact NZ.er (by decide)
      · split
        · exact NZ.er (by decide)
        · exact NZ.ok
theorem bytes_nz (s : List UInt8) (q : Nat) : NZ (bytesP s q) := by
  unfold bytesP
  have h1 := exp_nz s q 32
  cases he : expP s q 32 with
  | error e => rw [he] at h1; exact fun e' h => h1 e' (by injection h with h; rw [h])
  | ok q1 =>
    dsimp only
    have h2 := word_nz s q1
    cases hw : wordP s q1 with
    | error e => rw [hw] at h2; exact fun e' h => h2 e' (by injection h with h; rw [h])
    | ok r =>
      dsimp only; unfold hexW; split
      · exact NZ.ok
      · split
        · exact NZ.er (by decide)
        · exact NZ.ok
theorem a_nz (s : List UInt8) (u : Bool) (q : Nat) : NZ (aP s u q) := by unfold aP; split; exact num_nz s q; exact NZ.ok
theorem b_nz (s : List UInt8) (u : Bool) (q : Nat) : NZ (bP s u q) := by unfold bP; split; exact bytes_nz s q; exact NZ.ok
theorem args_nz (s : List UInt8) (k q : Nat) : NZ (argsP s k q) := by
  unfold argsP
  have h1 := a_nz s (useA k) q
  cases ha : aP s (useA k) q with
  | error e => rw [ha] at h1; exact fun e' h => h1 e' (by injection h with h; rw [h])
  | ok r =>
    dsimp only
    have h2 := b_nz s (useB k) r.2
    cases hb : bP s (useB k) r.2 with
    | error e => rw [hb] at h2; exact fun e' h => h2 e' (by injection h with h; rw [h])
    | ok r2 =>
      dsimp only
      have h3 := a_nz s (useC k) r2.2
      cases hc : aP s (useC k) r2.2 with
      | error e => rw [hc] at h3; exact fun e' h => h3 e' (by injection h with h; rw [h])
      | ok r3 =>
        dsimp only
        have h4 := exp_nz s r3.2 10
        cases he : expP s r3.2 10 with
        | error e => rw [he] at h4; exact fun e' h => h4 e' (by injection h with h; rw [h])
        | ok q4 => exact NZ.ok
theorem event_nz (s : List UInt8) (q : Nat) : NZ (eventP s q) := by
  unfold eventP
  have h1 := word_nz s q
  cases hw : wordP s q with
  | error e => rw [hw] at h1; exact fun e' h => h1 e' (by injection h with h; rw [h])
  | ok r =>
    dsimp only
    split
    · exact NZ.er (by decide)
    · exact args_nz _ _ _
theorem parseG_nz (s : List UInt8) : ∀ (f q n : Nat), s.length ≤ q + f → NZ (parseG s f q n)
  | 0, q, n, h => by unfold parseG; rw [if_pos (by omega)]; exact NZ.ok
  | f + 1, q, n, h => by
    unfold parseG
    split
    · exact NZ.ok
    · split
      · exact NZ.er (by decide)
      · have h1 := event_nz s q
        cases he : eventP s q with
        | error e => rw [he] at h1; exact fun e' h => h1 e' (by injection h with h; rw [h])
        | ok r =>
          obtain ⟨e, q1⟩ := r
          dsimp only
          have h2 := (event_back he).2.2.1
          have h3 := line_pos e
          have ih := parseG_nz s f q1 (n + 1) (by omega)
          cases hg : parseG s f q1 (n + 1) with
          | error e => rw [hg] at ih; exact fun e' h => ih e' (by injection h with h; rw [h])
          | ok l => exact NZ.ok
theorem parse_zero {s : List UInt8} (h : outC (parseP s) = 0) : ∃ l, parseP s = .ok l := by
  cases hp : parseP s with
  | ok l => exact ⟨l, rfl⟩
  | error e =>
    rw [hp] at h
    unfold parseP at hp
    split at hp
    · injection hp with hp; subst hp; cases h
    · exact absurd h (parseG_nz s _ 0 0 (by omega) e hp)


set_option maxHeartbeats 2000000 in
set_option maxRecDepth 10000 in
theorem lawParse {G : Ghost} {s : List UInt8} {v1 v2 : Value} {l : List Ev} {bd : List (UInt16 × UInt16)} (hls : s.length ≤ 1048576) (hx : Evs G v1 l) (hl : l.length ≤ 1048576) (hbd : U16s G v2 bd) (hlb : bd.length ≤ 1048576) (hT : Tab10 G) :
  FnOk Tryz.prog 3 [.string ⟨s.toArray⟩, v1, v2] G [] fun r _ H' => H' = [] ∧ r = .bool true := by
 have hsz := bsz s
 obtain ⟨A, cap, rfl⟩ := LstR.slice hbd
 refine FnOk.of_T [(0, _), (1, _), (2, _)] Tryz.func3 rfl Tryz.ntmps3 (by simp) rfl fun w0 hs => ?_
 have hx0 := hx
 have hbd0 := hbd
 have hT0 := hT
 refine T_seq (T_region rfl ?_)
 refine O_a rfl ?_
 refine O_nil (T_kp [0, 1, 2] rfl ?_)
 refine T_seq (T_region rfl ?_)
 refine O_s (S_call (H1 := []) hs rfl Tryz.func11 rfl (by kernel_rfl) (sanity_ok hT) fun v1 G' H' _ hR hG22 hs => ?_)
 obtain ⟨rfl, rfl⟩ := hR
 replace hs : St _ _ [] _ := hs
 replace hx := hx.mono hG22
 replace hbd := hbd.mono hG22
 replace hT := hT.mono hG22
 refine O_a rfl ?_
 refine O_nil (T_kp [0, 1, 2, 7] rfl ?_)
 refine T_seq (T_seq (T_region rfl ?_))
 refine O_m rfl ?_
 refine O_y hs (Y_lenS Tryz.underlying9 rfl ?_)
 refine O_y hs (Y_cmpS rfl rfl rfl (fun h25 => ?_) (fun h25 => ?_))
 ·
  dsimp only [cmpP] at h25
  refine O_nil (T_kp [0, 1, 2, 7, 25] rfl ?_)
  refine T_condT rfl (T_seq (T_region rfl ?_))
  refine O_m rfl ?_
  refine O_a rfl ?_
  refine O_nil (T_kp [6] rfl ?_)
  refine T_ret ?_
  refine Rt_fin (vs := [_]) Tryz.results3 rfl ⟨rfl, trivial⟩ ?_
  try dsimp only [tup]
  exact ⟨_, [], hs.done, rfl, rfl⟩
 ·
  dsimp only [cmpP] at h25
  refine O_nil (T_kp [0, 1, 2, 7, 25] rfl ?_)
  refine T_condF rfl (T_skip ?_)
  refine T_seq (T_region rfl ?_)
  refine O_m rfl ?_
  refine O_s (S_call (H1 := []) hs rfl Tryz.func13 rfl (by kernel_rfl) (made_ok hx) fun v2 G' H' _ hR hG28 hs => ?_)
  obtain ⟨rfl, hmd⟩ := hR
  replace hs : St _ _ [] _ := hs
  replace hx := hx.mono hG28
  replace hbd := hbd.mono hG28
  replace hT := hT.mono hG28
  refine O_s (S_call (H1 := []) hs rfl Tryz.func12 rfl (by kernel_rfl) (rfmt_ok hmd (made_bl l) (made_hlen l) (by have := madeL_len l; omega)) fun v3 G' H' _ hR hG29 hs => ?_)
  obtain ⟨rfl, rfl⟩ := hR
  replace hs : St _ _ [] _ := hs
  replace hx := hx.mono hG29
  replace hbd := hbd.mono hG29
  replace hT := hT.mono hG29
  replace hmd := hmd.mono hG29
  refine O_s (S_bytesObj hs Tryz.underlying9 Tryz.underlying25 Tryz.underlying5 rfl (by have := fmt_made_len l; omega) fun bo cap0 cs0 w30 hbc0 hs => ?_)
  refine O_a rfl ?_
  refine O_nil (T_kp [0, 2, 7, 8] rfl ?_)
  refine T_seq (T_seq (T_region rfl ?_))
  refine O_a rfl ?_
  refine O_nil (T_kp [0, 2, 7, 8, 9] rfl ?_)
  refine T_block (T_loop (fun m E w => ∃ (k : Nat) (txt : List UInt8) (cs : Array Value) (G2 : Ghost), k ≤ bd.length ∧ txt.length = (fmtT (madeL l)).length ∧ cs.size = cs0.size ∧ BCells cs txt cap0 ∧ m = bd.length - k ∧ E = ⟨[], [(0, .string ⟨s.toArray⟩), (2, (.slice A bd.length cap)), (7, .bool true), (8, .slice (some ⟨bo, 0, none⟩) (fmtT (madeL l)).length cap0), (9, .int .i64 (k : Int))]⟩ ∧ St ⟨w0, G, feet []⟩ G2 [.obj bo (.cells cs 5 (cs0.size, cs0.size + 1))] w) (L := [(0, _), (2, _), (7, _), (8, _), (9, _)]) ⟨rfl, rfl, rfl, rfl, rfl, trivial⟩ (⟨0, _, cs0, _, by omega, rfl, rfl, hbc0, rfl, rfl, hs⟩) fun m E w hI => ?_)
  obtain ⟨k, txt, cs, G2, hk, htl, hcz, hbc, rfl, rfl, hs⟩ := hI
  have hbd := hbd0.mono hs.le
  have hT := hT0.mono hs.le
  refine T_seq (T_seq (T_region rfl ?_))
  refine O_m rfl ?_
  refine O_m rfl ?_
  refine O_y hs (Y_len Tryz.underlying23 rfl ?_)
  refine O_y hs (Y_cmpS rfl rfl rfl (fun h34 => ?_) (fun h34 => ?_))
  ·
   dsimp only [cmpP] at h34
   refine O_m rfl ?_
   refine O_yy 35 hs rfl rfl (Y_move rfl ?_)
   refine O_yy 35 hs rfl rfl (Y_cmpS rfl rfl rfl (fun h37 => ?_) (fun h37 => ?_))
   ·
    dsimp only [cmpP] at h37
    refine O_y hs (Y_pickT rfl rfl ?_)
    refine O_m rfl ?_
    refine O_yy 39 hs rfl rfl (Y_move rfl ?_)
    refine O_yy 39 hs rfl rfl (Y_len Tryz.underlying25 rfl ?_)
    refine O_yy 39 hs rfl rfl (Y_cmpS rfl rfl rfl (fun h42 => ?_) (fun h42 => ?_))
    ·
     dsimp only [cmpP] at h42
     refine O_y hs (Y_pickT rfl rfl ?_)
     refine O_nil (T_kp [0, 2, 7, 8, 9, 43] rfl ?_)
     refine T_condT rfl (T_skip ?_)
     refine T_seq (T_block (T_drawS [0, 1, 2, 3, 4, 5, 6, 7, 8, 9, 10, 11, 12, 13, 14, 15, 16] hs (by kernel_rfl) ?_))
     replace hs := hs.drew
     refine A_take 0 rfl (by kernel_rfl) rfl hs (Y_move rfl ?_)
     refine A_take 1 rfl (by kernel_rfl) rfl hs (Y_move rfl ?_)
     refine A_take 2 rfl (by kernel_rfl) rfl hs (Y_move rfl ?_)
     refine A_take 3 rfl (by kernel_rfl) rfl hs (Y_idxS hbd k Tryz.underlying23 Tryz.sizeOf29 rfl rfl rfl (by omega) fun p49 c49 hp49 hc49 hR49 => ?_)
     obtain ⟨pa, hpa⟩ : ∃ e, e = bd[k]'(by omega) := ⟨_, rfl⟩
     rw [← hpa] at hR49
     obtain rfl := hR49
     refine A_take 4 rfl (by kernel_rfl) rfl hs (Y_idxArrP 0 Tryz.underlying29 Tryz.sizeOf28 rfl rfl rfl (by decide) ?_)
     refine A_take 5 rfl (by kernel_rfl) rfl hs (Y_ldG Tryz.isAgg28 rfl (hp49 0 _ rfl) ?_)
     refine A_take 6 rfl (by kernel_rfl) rfl hs (Y_conv Tryz.underlying28 Tryz.underlying3 (c := (pa.1.toNat : Int)) rfl (u16_wrap _) ?_)
     refine A_take 7 rfl (by kernel_rfl) rfl hs (Y_move rfl ?_)
     refine A_take 8 rfl (by kernel_rfl) rfl hs (Y_len Tryz.underlying25 rfl ?_)
     refine A_take 9 rfl (by kernel_rfl) rfl hs (Y_rem (c := (((pa.1.toNat % (fmtT (madeL l)).length) : Nat) : Int)) rfl rfl (by omega) (by omega) (by omega) ?_)
     refine A_take 10 rfl (by kernel_rfl) rfl hs (Y_move rfl ?_)
     refine A_take 11 rfl (by kernel_rfl) rfl hs (Y_move rfl ?_)
     refine A_take 12 rfl (by kernel_rfl) rfl hs (Y_idxS hbd k Tryz.underlying23 Tryz.sizeOf29 rfl rfl rfl (by omega) fun p58 c58 hp58 hc58 hR58 => ?_)
     obtain ⟨pb, hpb⟩ : ∃ e, e = bd[k]'(by omega) := ⟨_, rfl⟩
     rw [← hpb] at hR58
     obtain rfl := hR58
     refine A_take 13 rfl (by kernel_rfl) rfl hs (Y_idxArrP 1 Tryz.underlying29 Tryz.sizeOf28 rfl rfl rfl (by decide) ?_)
     refine A_take 14 rfl (by kernel_rfl) rfl hs (Y_ldG Tryz.isAgg28 rfl (hp58 1 _ rfl) ?_)
     refine A_take 15 rfl (by kernel_rfl) rfl hs (Y_conv Tryz.underlying28 Tryz.underlying5 (c := ((UInt8.ofNat pb.2.toNat).toNat : Int)) rfl (u8wrap _) ?_)
     refine A_take 16 rfl (by kernel_rfl) rfl hs (Y_idxRow (pa.1.toNat % (fmtT (madeL l)).length) Tryz.underlying25 Tryz.sizeOf5 rfl rfl rfl (Nat.mod_lt _ (by omega)) ?_)
     refine A_tailN 17 rfl (by kernel_rfl) (by kernel_rfl) rfl (S_stObj hs Tryz.sizeOf5 rfl rfl rfl (by have := hbc.2.2.2; have := Nat.mod_lt pa.1.toNat (show 0 < (fmtT (madeL l)).length by omega); omega) (by have := hbc.2.2.2; have := Nat.mod_lt pa.1.toNat (show 0 < (fmtT (madeL l)).length by omega); dsimp only; omega) fun _ hs => ?_)
     refine A_done (by kernel_rfl) (T_kp [0, 2, 7, 8, 9] rfl ?_)
     refine T_region rfl ?_
     refine O_m rfl ?_
     refine O_y hs (Y_add (c := ((k + 1 : Nat) : Int)) rfl rfl (by omega) (by omega) ?_)
     refine O_a rfl ?_
     refine O_nil ⟨_, ?_, [(0, _), (2, _), (7, _), (8, _), (9, _)], ⟨rfl, rfl, rfl, rfl, rfl, trivial⟩, ⟨k + 1, _, _, _, by omega, by rw [List.length_set]; exact htl, by simpa using hcz, hbc.set, rfl, rfl, hs⟩⟩
     omega
    ·
     dsimp only [cmpP] at h42
     refine O_y hs (Y_pickT rfl rfl ?_)
     refine O_nil (T_kp [0, 2, 7, 8, 9, 43] rfl ?_)
     refine T_condF rfl (T_exit ?_)
     obtain ⟨G9, hG9, hbt, hs⟩ := hs.fixObj (fun k => noMb k) hbc
     rw [htl] at hbt
     replace hbd := hbd.mono hG9
     replace hT := hT.mono hG9
     refine T_seq (T_region rfl ?_)
     refine O_m rfl ?_
     refine O_s (S_call (H1 := []) hs rfl Tryz.func14 rfl (by kernel_rfl) (parse_is (s := s) rfl (by omega)) fun v4 G' H' _ hR hG65 hs => ?_)
     obtain ⟨rfl, A65, c65, hE65, rfl⟩ := hR
     replace hs : St _ _ [] _ := hs
     replace hbd := hbd.mono hG65
     replace hT := hT.mono hG65
     replace hbt := hbt.mono hG65
     refine O_m rfl ?_
     refine O_y hs (Y_extract rfl rfl ?_)
     refine O_y hs (Y_extract rfl rfl ?_)
     refine O_y hs (Y_extract rfl rfl ?_)
     refine O_a rfl ?_
     refine O_a rfl ?_
     refine O_a rfl ?_
     refine O_nil (T_kp [0, 7, 8, 10, 11, 12] rfl ?_)
     refine T_seq (T_region rfl ?_)
     refine O_m rfl ?_
     refine O_s (S_call (H1 := []) hs rfl Tryz.func15 rfl (by kernel_rfl) (rparse_is (s := s) rfl (by omega)) fun v5 G' H' _ hR hG71 hs => ?_)
     obtain ⟨rfl, A71, c71, hE71, rfl⟩ := hR
     replace hs : St _ _ [] _ := hs
     replace hbd := hbd.mono hG71
     replace hT := hT.mono hG71
     replace hbt := hbt.mono hG71
     replace hE65 := hE65.mono hG71
     refine O_m rfl ?_
     refine O_y hs (Y_extract rfl rfl ?_)
     refine O_y hs (Y_extract rfl rfl ?_)
     refine O_y hs (Y_extract rfl rfl ?_)
     refine O_a rfl ?_
     refine O_a rfl ?_
     refine O_a rfl ?_
     refine O_nil (T_kp [7, 8, 10, 11, 12, 13, 14, 15] rfl ?_)
     refine T_seq (T_region rfl ?_)
     refine O_m rfl ?_
     refine O_y hs (Y_str (bs := txt) Tryz.underlying25 Tryz.underlying5 Tryz.underlying9 rfl hbt ?_)
     refine O_s (S_call (H1 := []) hs rfl Tryz.func14 rfl (by kernel_rfl) (parse_is (s := txt) rfl (by have := fmt_made_len l; omega)) fun v6 G' H' _ hR hG78 hs => ?_)
     obtain ⟨rfl, A78, c78, hE78, rfl⟩ := hR
     replace hs : St _ _ [] _ := hs
     replace hbd := hbd.mono hG78
     replace hT := hT.mono hG78
     replace hbt := hbt.mono hG78
     replace hE65 := hE65.mono hG78
     replace hE71 := hE71.mono hG78
     refine O_m rfl ?_
     refine O_y hs (Y_extract rfl rfl ?_)
     refine O_y hs (Y_extract rfl rfl ?_)
     refine O_y hs (Y_extract rfl rfl ?_)
     refine O_a rfl ?_
     refine O_a rfl ?_
     refine O_a rfl ?_
     refine O_nil (T_kp [7, 8, 10, 11, 12, 13, 14, 15, 16, 17, 18] rfl ?_)
     refine T_seq (T_region rfl ?_)
     refine O_m rfl ?_
     refine O_y hs (Y_str (bs := txt) Tryz.underlying25 Tryz.underlying5 Tryz.underlying9 rfl hbt ?_)
     refine O_s (S_call (H1 := []) hs rfl Tryz.func15 rfl (by kernel_rfl) (rparse_is (s := txt) rfl (by have := fmt_made_len l; omega)) fun v7 G' H' _ hR hG85 hs => ?_)
     obtain ⟨rfl, A85, c85, hE85, rfl⟩ := hR
     replace hs : St _ _ [] _ := hs
     replace hbd := hbd.mono hG85
     replace hT := hT.mono hG85
     replace hbt := hbt.mono hG85
     replace hE65 := hE65.mono hG85
     replace hE71 := hE71.mono hG85
     replace hE78 := hE78.mono hG85
     refine O_m rfl ?_
     refine O_y hs (Y_extract rfl rfl ?_)
     refine O_y hs (Y_extract rfl rfl ?_)
     refine O_y hs (Y_extract rfl rfl ?_)
     refine O_a rfl ?_
     refine O_a rfl ?_
     refine O_a rfl ?_
     refine O_nil (T_kp [7, 10, 11, 12, 13, 14, 15, 16, 17, 18, 19, 20, 21] rfl ?_)
     refine T_seq (T_region rfl ?_)
     refine O_m rfl ?_
     refine O_m rfl ?_
     refine O_s (S_call (H1 := []) hs rfl Tryz.func16 rfl (by kernel_rfl) (same_yes hE65 hE71 (by have := @parse_len s; omega) rfl) fun v8 G' H' _ hR hG91 hs => ?_)
     obtain ⟨rfl, rfl⟩ := hR
     replace hs : St _ _ [] _ := hs
     replace hbd := hbd.mono hG91
     replace hT := hT.mono hG91
     replace hbt := hbt.mono hG91
     replace hE65 := hE65.mono hG91
     replace hE71 := hE71.mono hG91
     replace hE78 := hE78.mono hG91
     replace hE85 := hE85.mono hG91
     refine O_m rfl ?_
     refine O_yy 92 hs rfl rfl (Y_move rfl ?_)
     refine O_yy 92 hs rfl rfl (Y_move rfl ?_)
     refine O_yy 92 hs rfl rfl (Y_cmpT rfl rfl rfl (rfl) ?_)
     refine O_y hs (Y_pickT rfl rfl ?_)
     refine O_m rfl ?_
     refine O_yy 97 hs rfl rfl (Y_move rfl ?_)
     refine O_yy 97 hs rfl rfl (Y_move rfl ?_)
     refine O_yy 97 hs rfl rfl (Y_cmpT rfl rfl rfl (rfl) ?_)
     refine O_y hs (Y_pickT rfl rfl ?_)
     refine O_m rfl ?_
     refine O_yy 102 hs rfl rfl (Y_move rfl ?_)
     refine O_yy 102 hs rfl rfl (Y_move rfl ?_)
     refine O_yes 102 rfl rfl (S_call (H1 := []) hs rfl Tryz.func16 rfl (by kernel_rfl) (same_yes hE78 hE85 (by have := @parse_len txt; omega) rfl) fun v9 G' H' _ hR hG105 hs => ?_)
     obtain ⟨rfl, rfl⟩ := hR
     replace hs : St _ _ [] _ := hs
     replace hbd := hbd.mono hG105
     replace hT := hT.mono hG105
     replace hbt := hbt.mono hG105
     replace hE65 := hE65.mono hG105
     replace hE71 := hE71.mono hG105
     replace hE78 := hE78.mono hG105
     replace hE85 := hE85.mono hG105
     refine O_y hs (Y_pickT rfl rfl ?_)
     refine O_m rfl ?_
     refine O_yy 107 hs rfl rfl (Y_move rfl ?_)
     refine O_yy 107 hs rfl rfl (Y_move rfl ?_)
     refine O_yy 107 hs rfl rfl (Y_cmpT rfl rfl rfl (rfl) ?_)
     refine O_y hs (Y_pickT rfl rfl ?_)
     refine O_m rfl ?_
     refine O_yy 112 hs rfl rfl (Y_move rfl ?_)
     refine O_yy 112 hs rfl rfl (Y_move rfl ?_)
     refine O_yy 112 hs rfl rfl (Y_cmpT rfl rfl rfl (rfl) ?_)
     refine O_y hs (Y_pickT rfl rfl ?_)
     refine O_m rfl ?_
     refine O_yy 117 hs rfl rfl (Y_move rfl ?_)
     refine O_y hs (Y_pickT rfl rfl ?_)
     refine O_a rfl ?_
     refine O_nil (T_kp [6] rfl ?_)
     refine T_ret ?_
     refine Rt_fin (vs := [_]) Tryz.results3 rfl ⟨rfl, trivial⟩ ?_
     try dsimp only [tup]
     exact ⟨_, [], hs.done, rfl, rfl⟩
   ·
    dsimp only [cmpP] at h37
    refine O_y hs (Y_pickT rfl rfl ?_)
    refine O_m rfl ?_
    refine O_no 39 rfl rfl ?_
    refine O_no 39 rfl rfl ?_
    refine O_no 39 rfl rfl ?_
    refine O_y hs (Y_pickF rfl rfl ?_)
    refine O_nil (T_kp [0, 2, 7, 8, 9, 43] rfl ?_)
    refine T_condF rfl (T_exit ?_)
    obtain ⟨G9, hG9, hbt, hs⟩ := hs.fixObj (fun k => noMb k) hbc
    rw [htl] at hbt
    replace hbd := hbd.mono hG9
    replace hT := hT.mono hG9
    refine T_seq (T_region rfl ?_)
    refine O_m rfl ?_
    refine O_s (S_call (H1 := []) hs rfl Tryz.func14 rfl (by kernel_rfl) (parse_is (s := s) rfl (by omega)) fun v10 G' H' _ hR hG65 hs => ?_)
    obtain ⟨rfl, A65, c65, hE65, rfl⟩ := hR
    replace hs : St _ _ [] _ := hs
    replace hbd := hbd.mono hG65
    replace hT := hT.mono hG65
    replace hbt := hbt.mono hG65
    refine O_m rfl ?_
    refine O_y hs (Y_extract rfl rfl ?_)
    refine O_y hs (Y_extract rfl rfl ?_)
    refine O_y hs (Y_extract rfl rfl ?_)
    refine O_a rfl ?_
    refine O_a rfl ?_
    refine O_a rfl ?_
    refine O_nil (T_kp [0, 7, 8, 10, 11, 12] rfl ?_)
    refine T_seq (T_region rfl ?_)
    refine O_m rfl ?_
    refine O_s (S_call (H1 := []) hs rfl Tryz.func15 rfl (by kernel_rfl) (rparse_is (s := s) rfl (by omega)) fun v11 G' H' _ hR hG71 hs => ?_)
    obtain ⟨rfl, A71, c71, hE71, rfl⟩ := hR
    replace hs : St _ _ [] _ := hs
    replace hbd := hbd.mono hG71
    replace hT := hT.mono hG71
    replace hbt := hbt.mono hG71
    replace hE65 := hE65.mono hG71
    refine O_m rfl ?_
    refine O_y hs (Y_extract rfl rfl ?_)
    refine O_y hs (Y_extract rfl rfl ?_)
    refine O_y hs (Y_extract rfl rfl ?_)
    refine O_a rfl ?_
    refine O_a rfl ?_
    refine O_a rfl ?_
    refine O_nil (T_kp [7, 8, 10, 11, 12, 13, 14, 15] rfl ?_)
    refine T_seq (T_region rfl ?_)
    refine O_m rfl ?_
    refine O_y hs (Y_str (bs := txt) Tryz.underlying25 Tryz.underlying5 Tryz.underlying9 rfl hbt ?_)
    refine O_s (S_call (H1 := []) hs rfl Tryz.func14 rfl (by kernel_rfl) (parse_is (s := txt) rfl (by have := fmt_made_len l; omega)) fun v12 G' H' _ hR hG78 hs => ?_)
    obtain ⟨rfl, A78, c78, hE78, rfl⟩ := hR
    replace hs : St _ _ [] _ := hs
    replace hbd := hbd.mono hG78
    replace hT := hT.mono hG78
    replace hbt := hbt.mono hG78
    replace hE65 := hE65.mono hG78
    replace hE71 := hE71.mono hG78
    refine O_m rfl ?_
    refine O_y hs (Y_extract rfl rfl ?_)
    refine O_y hs (Y_extract rfl rfl ?_)
    refine O_y hs (Y_extract rfl rfl ?_)
    refine O_a rfl ?_
    refine O_a rfl ?_
    refine O_a rfl ?_
    refine O_nil (T_kp [7, 8, 10, 11, 12, 13, 14, 15, 16, 17, 18] rfl ?_)
    refine T_seq (T_region rfl ?_)
    refine O_m rfl ?_
    refine O_y hs (Y_str (bs := txt) Tryz.underlying25 Tryz.underlying5 Tryz.underlying9 rfl hbt ?_)
    refine O_s (S_call (H1 := []) hs rfl Tryz.func15 rfl (by kernel_rfl) (rparse_is (s := txt) rfl (by have := fmt_made_len l; omega)) fun v13 G' H' _ hR hG85 hs => ?_)
    obtain ⟨rfl, A85, c85, hE85, rfl⟩ := hR
    replace hs : St _ _ [] _ := hs
    replace hbd := hbd.mono hG85
    replace hT := hT.mono hG85
    replace hbt := hbt.mono hG85
    replace hE65 := hE65.mono hG85
    replace hE71 := hE71.mono hG85
    replace hE78 := hE78.mono hG85
    refine O_m rfl ?_
    refine O_y hs (Y_extract rfl rfl ?_)
    refine O_y hs (Y_extract rfl rfl ?_)
    refine O_y hs (Y_extract rfl rfl ?_)
    refine O_a rfl ?_
    refine O_a rfl ?_
    refine O_a rfl ?_
    refine O_nil (T_kp [7, 10, 11, 12, 13, 14, 15, 16, 17, 18, 19, 20, 21] rfl ?_)
    refine T_seq (T_region rfl ?_)
    refine O_m rfl ?_
    refine O_m rfl ?_
    refine O_s (S_call (H1 := []) hs rfl Tryz.func16 rfl (by kernel_rfl) (same_yes hE65 hE71 (by have := @parse_len s; omega) rfl) fun v14 G' H' _ hR hG91 hs => ?_)
    obtain ⟨rfl, rfl⟩ := hR
    replace hs : St _ _ [] _ := hs
    replace hbd := hbd.mono hG91
    replace hT := hT.mono hG91
    replace hbt := hbt.mono hG91
    replace hE65 := hE65.mono hG91
    replace hE71 := hE71.mono hG91
    replace hE78 := hE78.mono hG91
    replace hE85 := hE85.mono hG91
    refine O_m rfl ?_
    refine O_yy 92 hs rfl rfl (Y_move rfl ?_)
    refine O_yy 92 hs rfl rfl (Y_move rfl ?_)
    refine O_yy 92 hs rfl rfl (Y_cmpT rfl rfl rfl (rfl) ?_)
    refine O_y hs (Y_pickT rfl rfl ?_)
    refine O_m rfl ?_
    refine O_yy 97 hs rfl rfl (Y_move rfl ?_)
    refine O_yy 97 hs rfl rfl (Y_move rfl ?_)
    refine O_yy 97 hs rfl rfl (Y_cmpT rfl rfl rfl (rfl) ?_)
    refine O_y hs (Y_pickT rfl rfl ?_)
    refine O_m rfl ?_
    refine O_yy 102 hs rfl rfl (Y_move rfl ?_)
    refine O_yy 102 hs rfl rfl (Y_move rfl ?_)
    refine O_yes 102 rfl rfl (S_call (H1 := []) hs rfl Tryz.func16 rfl (by kernel_rfl) (same_yes hE78 hE85 (by have := @parse_len txt; omega) rfl) fun v15 G' H' _ hR hG105 hs => ?_)
    obtain ⟨rfl, rfl⟩ := hR
    replace hs : St _ _ [] _ := hs
    replace hbd := hbd.mono hG105
    replace hT := hT.mono hG105
    replace hbt := hbt.mono hG105
    replace hE65 := hE65.mono hG105
    replace hE71 := hE71.mono hG105
    replace hE78 := hE78.mono hG105
    replace hE85 := hE85.mono hG105
    refine O_y hs (Y_pickT rfl rfl ?_)
    refine O_m rfl ?_
    refine O_yy 107 hs rfl rfl (Y_move rfl ?_)
    refine O_yy 107 hs rfl rfl (Y_move rfl ?_)
    refine O_yy 107 hs rfl rfl (Y_cmpT rfl rfl rfl (rfl) ?_)
    refine O_y hs (Y_pickT rfl rfl ?_)
    refine O_m rfl ?_
    refine O_yy 112 hs rfl rfl (Y_move rfl ?_)
    refine O_yy 112 hs rfl rfl (Y_move rfl ?_)
    refine O_yy 112 hs rfl rfl (Y_cmpT rfl rfl rfl (rfl) ?_)
    refine O_y hs (Y_pickT rfl rfl ?_)
    refine O_m rfl ?_
    refine O_yy 117 hs rfl rfl (Y_move rfl ?_)
    refine O_y hs (Y_pickT rfl rfl ?_)
    refine O_a rfl ?_
    refine O_nil (T_kp [6] rfl ?_)
    refine T_ret ?_
    refine Rt_fin (vs := [_]) Tryz.results3 rfl ⟨rfl, trivial⟩ ?_
    try dsimp only [tup]
    exact ⟨_, [], hs.done, rfl, rfl⟩
  ·
   dsimp only [cmpP] at h34
   refine O_m rfl ?_
   refine O_no 35 rfl rfl ?_
   refine O_no 35 rfl rfl ?_
   refine O_y hs (Y_pickF rfl rfl ?_)
   refine O_m rfl ?_
   refine O_no 39 rfl rfl ?_
   refine O_no 39 rfl rfl ?_
   refine O_no 39 rfl rfl ?_
   refine O_y hs (Y_pickF rfl rfl ?_)
   refine O_nil (T_kp [0, 2, 7, 8, 9, 43] rfl ?_)
   refine T_condF rfl (T_exit ?_)
   obtain ⟨G9, hG9, hbt, hs⟩ := hs.fixObj (fun k => noMb k) hbc
   rw [htl] at hbt
   replace hbd := hbd.mono hG9
   replace hT := hT.mono hG9
   refine T_seq (T_region rfl ?_)
   refine O_m rfl ?_
   refine O_s (S_call (H1 := []) hs rfl Tryz.func14 rfl (by kernel_rfl) (parse_is (s := s) rfl (by omega)) fun v16 G' H' _ hR hG65 hs => ?_)
   obtain ⟨rfl, A65, c65, hE65, rfl⟩ := hR
   replace hs : St _ _ [] _ := hs
   replace hbd := hbd.mono hG65
   replace hT := hT.mono hG65
   replace hbt := hbt.mono hG65
   refine O_m rfl ?_
   refine O_y hs (Y_extract rfl rfl ?_)
   refine O_y hs (Y_extract rfl rfl ?_)
   refine O_y hs (Y_extract rfl rfl ?_)
   refine O_a rfl ?_
   refine O_a rfl ?_
   refine O_a rfl ?_
   refine O_nil (T_kp [0, 7, 8, 10, 11, 12] rfl ?_)
   refine T_seq (T_region rfl ?_)
   refine O_m rfl ?_
   refine O_s (S_call (H1 := []) hs rfl Tryz.func15 rfl (by kernel_rfl) (rparse_is (s := s) rfl (by omega)) fun v17 G' H' _ hR hG71 hs => ?_)
   obtain ⟨rfl, A71, c71, hE71, rfl⟩ := hR
   replace hs : St _ _ [] _ := hs
   replace hbd := hbd.mono hG71
   replace hT := hT.mono hG71
   replace hbt := hbt.mono hG71
   replace hE65 := hE65.mono hG71
   refine O_m rfl ?_
   refine O_y hs (Y_extract rfl rfl ?_)
   refine O_y hs (Y_extract rfl rfl ?_)
   refine O_y hs (Y_extract rfl rfl ?_)
   refine O_a rfl ?_
   refine O_a rfl ?_
   refine O_a rfl ?_
   refine O_nil (T_kp [7, 8, 10, 11, 12, 13, 14, 15] rfl ?_)
   refine T_seq (T_region rfl ?_)
   refine O_m rfl ?_
   refine O_y hs (Y_str (bs := txt) Tryz.underlying25 Tryz.underlying5 Tryz.underlying9 rfl hbt ?_)
   refine O_s (S_call (H1 := []) hs rfl Tryz.func14 rfl (by kernel_rfl) (parse_is (s := txt) rfl (by have := fmt_made_len l; omega)) fun v18 G' H' _ hR hG78 hs => ?_)
   obtain ⟨rfl, A78, c78, hE78, rfl⟩ := hR
   replace hs : St _ _ [] _ := hs
   replace hbd := hbd.mono hG78
   replace hT := hT.mono hG78
   replace hbt := hbt.mono hG78
   replace hE65 := hE65.mono hG78
   replace hE71 := hE71.mono hG78
   refine O_m rfl ?_
   refine O_y hs (Y_extract rfl rfl ?_)
   refine O_y hs (Y_extract rfl rfl ?_)
   refine O_y hs (Y_extract rfl rfl ?_)
   refine O_a rfl ?_
   refine O_a rfl ?_
   refine O_a rfl ?_
   refine O_nil (T_kp [7, 8, 10, 11, 12, 13, 14, 15, 16, 17, 18] rfl ?_)
   refine T_seq (T_region rfl ?_)
   refine O_m rfl ?_
   refine O_y hs (Y_str (bs := txt) Tryz.underlying25 Tryz.underlying5 Tryz.underlying9 rfl hbt ?_)
   refine O_s (S_call (H1 := []) hs rfl Tryz.func15 rfl (by kernel_rfl) (rparse_is (s := txt) rfl (by have := fmt_made_len l; omega)) fun v19 G' H' _ hR hG85 hs => ?_)
   obtain ⟨rfl, A85, c85, hE85, rfl⟩ := hR
   replace hs : St _ _ [] _ := hs
   replace hbd := hbd.mono hG85
   replace hT := hT.mono hG85
   replace hbt := hbt.mono hG85
   replace hE65 := hE65.mono hG85
   replace hE71 := hE71.mono hG85
   replace hE78 := hE78.mono hG85
   refine O_m rfl ?_
   refine O_y hs (Y_extract rfl rfl ?_)
   refine O_y hs (Y_extract rfl rfl ?_)
   refine O_y hs (Y_extract rfl rfl ?_)
   refine O_a rfl ?_
   refine O_a rfl ?_
   refine O_a rfl ?_
   refine O_nil (T_kp [7, 10, 11, 12, 13, 14, 15, 16, 17, 18, 19, 20, 21] rfl ?_)
   refine T_seq (T_region rfl ?_)
   refine O_m rfl ?_
   refine O_m rfl ?_
   refine O_s (S_call (H1 := []) hs rfl Tryz.func16 rfl (by kernel_rfl) (same_yes hE65 hE71 (by have := @parse_len s; omega) rfl) fun v20 G' H' _ hR hG91 hs => ?_)
   obtain ⟨rfl, rfl⟩ := hR
   replace hs : St _ _ [] _ := hs
   replace hbd := hbd.mono hG91
   replace hT := hT.mono hG91
   replace hbt := hbt.mono hG91
   replace hE65 := hE65.mono hG91
   replace hE71 := hE71.mono hG91
   replace hE78 := hE78.mono hG91
   replace hE85 := hE85.mono hG91
   refine O_m rfl ?_
   refine O_yy 92 hs rfl rfl (Y_move rfl ?_)
   refine O_yy 92 hs rfl rfl (Y_move rfl ?_)
   refine O_yy 92 hs rfl rfl (Y_cmpT rfl rfl rfl (rfl) ?_)
   refine O_y hs (Y_pickT rfl rfl ?_)
   refine O_m rfl ?_
   refine O_yy 97 hs rfl rfl (Y_move rfl ?_)
   refine O_yy 97 hs rfl rfl (Y_move rfl ?_)
   refine O_yy 97 hs rfl rfl (Y_cmpT rfl rfl rfl (rfl) ?_)
   refine O_y hs (Y_pickT rfl rfl ?_)
   refine O_m rfl ?_
   refine O_yy 102 hs rfl rfl (Y_move rfl ?_)
   refine O_yy 102 hs rfl rfl (Y_move rfl ?_)
   refine O_yes 102 rfl rfl (S_call (H1 := []) hs rfl Tryz.func16 rfl (by kernel_rfl) (same_yes hE78 hE85 (by have := @parse_len txt; omega) rfl) fun v21 G' H' _ hR hG105 hs => ?_)
   obtain ⟨rfl, rfl⟩ := hR
   replace hs : St _ _ [] _ := hs
   replace hbd := hbd.mono hG105
   replace hT := hT.mono hG105
   replace hbt := hbt.mono hG105
   replace hE65 := hE65.mono hG105
   replace hE71 := hE71.mono hG105
   replace hE78 := hE78.mono hG105
   replace hE85 := hE85.mono hG105
   refine O_y hs (Y_pickT rfl rfl ?_)
   refine O_m rfl ?_
   refine O_yy 107 hs rfl rfl (Y_move rfl ?_)
   refine O_yy 107 hs rfl rfl (Y_move rfl ?_)
   refine O_yy 107 hs rfl rfl (Y_cmpT rfl rfl rfl (rfl) ?_)
   refine O_y hs (Y_pickT rfl rfl ?_)
   refine O_m rfl ?_
   refine O_yy 112 hs rfl rfl (Y_move rfl ?_)
   refine O_yy 112 hs rfl rfl (Y_move rfl ?_)
   refine O_yy 112 hs rfl rfl (Y_cmpT rfl rfl rfl (rfl) ?_)
   refine O_y hs (Y_pickT rfl rfl ?_)
   refine O_m rfl ?_
   refine O_yy 117 hs rfl rfl (Y_move rfl ?_)
   refine O_y hs (Y_pickT rfl rfl ?_)
   refine O_a rfl ?_
   refine O_nil (T_kp [6] rfl ?_)
   refine T_ret ?_
   refine Rt_fin (vs := [_]) Tryz.results3 rfl ⟨rfl, trivial⟩ ?_
   try dsimp only [tup]
   exact ⟨_, [], hs.done, rfl, rfl⟩

end Go.Proofs.YtcnljflihhggiaaGreatDoor
