/- The walk of the law ScriptFormatMatchesReference: the call returns true, whatever its arguments read, and changes nothing. -/
import Derived.Test.YtcnljflihhggiaaGreatDoorExWalks5
import Derived.Test.YtcnljflihhggiaaGreatDoorProg
import Derived.Test.YtcnljflihhggiaaGreatDoorPlain
import Derived.Test.YtcnljflihhggiaaGreatDoorExThin
import Derived.Test.YtcnljflihhggiaaGreatDoorExOrders
import Derived.Test.YtcnljflihhggiaaGreatDoorExMut
import Derived.Test.YtcnljflihhggiaaGreatDoorShelf
namespace Go.Proofs.YtcnljflihhggiaaGreatDoor
open Go Go.Ex Go.RowKit


def U16P (_ : Ghost) (cs : List Value) (p : UInt16 × UInt16) : Prop := cs = [.int .u16 (p.1.toNat : Int), .int .u16 (p.2.toNat : Int)]
def U16s (G : Ghost) (v : Value) (l : List (UInt16 × UInt16)) : Prop := LstR 2 U16P G v l
theorem U16s.mono {G G' : Ghost} (h : G.le G') {v : Value} {l : List (UInt16 × UInt16)} (hl : U16s G v l) : U16s G' v l := LstR.mono (R := U16P) (G := G) (G' := G') (fun _ _ he => he) h hl
theorem parse_len {s : List UInt8} : (outE (parseP s)).length ≤ 400 := by
  cases h : parseP s with
  | error e => simp [outE]
  | ok l =>
    unfold parseP at h
    split at h
    · cases h
    · obtain ⟨_, _, h3⟩ := parse_back _ 0 0 l (Nat.zero_le _) h
      show l.length ≤ 400
      rcases h3 with rfl | h3 | h3
      · simp
      · omega
      · omega
theorem made_bl (l : List Ev) : ∀ e ∈ madeL l, e.b.length ≤ 400000 := fun e he => by have := madeL_b l e he; omega
theorem u16_wrap (x : UInt16) : IntKind.i64.wrap (x.toNat : Int) = (x.toNat : Int) := wrap64_eq (by have := x.toNat_lt; omega)
theorem str_iff {a b : List UInt8} (h : a = b) : ((⟨a.toArray⟩ : ByteArray).data.toList = (⟨b.toArray⟩ : ByteArray).data.toList) ↔ true = true := ⟨fun _ => rfl, fun _ => by rw [h]⟩
/-- What was parsed can be written: its size. -/
theorem parsed_ok {s : List UInt8} {l : List Ev} (h : parseP s = .ok l) : (∀ e ∈ l, e.b.length ≤ 400000) ∧ (∀ k, (∀ i (hi : i < l.length), i < k → wrE l[i] = true) → (linesT (l.take k)).length ≤ 900000) ∧ l.length ≤ 400 := by
  have h4 : s.length ≤ 4000 := by
    unfold parseP at h
    split at h
    · cases h
    · omega
  have h5 : parseG s s.length 0 0 = .ok l := by unfold parseP at h; rwa [if_neg (by omega)] at h
  obtain ⟨hw, ht, hn⟩ := parse_back _ 0 0 l (Nat.zero_le _) h5
  rw [List.drop_zero] at ht
  have hsum : ∀ (l : List Ev) (e : Ev), e ∈ l → (lineT e).length ≤ (linesT l).length := by
    intro l
    induction l with
    | nil => intro e he; cases he
    | cons a l ih =>
      intro e he
      rw [show linesT (a :: l) = lineT a ++ linesT l from rfl, List.length_append]
      rcases List.mem_cons.1 he with rfl | he
      · omega
      · have := ih e he; omega
  refine ⟨fun e he => ?_, fun k _ => ?_, by rcases hn with rfl | hn | hn; simp; omega; omega⟩
  · have h6 := hsum l e he
    rw [← ht] at h6
    have hwe := hw e he
    rcases hwe.b with hb | hb
    · have h7 : (hexT e.b).length ≤ (lineT e).length := by
        unfold lineT optT
        rw [hb]
        simp only [List.length_append, if_true, List.length_cons]; omega
      have h8 : e.b.length ≤ (hexT e.b).length := by
        unfold hexT
        split
        · simp; omega
        · rw [hexP_len]; omega
      omega
    · rw [hb]; simp
  · have h6 : (linesT (l.take k)).length ≤ (linesT l).length := by
      have : linesT l = linesT (l.take k) ++ linesT (l.drop k) := by unfold linesT; rw [← List.flatMap_append, List.take_append_drop]
      rw [this, List.length_append]; omega
    rw [← ht] at h6; omega
/-- No error's code is 0. -/
def NZ {α : Type} (r : Except Er α) : Prop := ∀ e, r = .error e → e.1 ≠ 0
theorem NZ.ok {α : Type} {a : α} : NZ (.ok a : Except Er α) := fun _ h => by cases h
theorem NZ.er {α : Type} {c : Int} {q : Nat} (h : c ≠ 0) : NZ (.error (c, q) : Except Er α) := fun e he => by injection he with he; subst he; exact h
theorem exp_nz (s : List UInt8) (q : Nat) (b : UInt8) : NZ (expP s q b) := by
  unfold expP; split
  · exact NZ.er (by decide)
  · split
    · exact NZ.ok
    · exact NZ.er (by decide)
theorem word_nz (s : List UInt8) (q : Nat) : NZ (wordP s q) := by
  unfold wordP; split
  · exact NZ.er (by decide)
  · split
    · exact NZ.er (by decide)
    · exact NZ.ok
theorem num_nz (s : List UInt8) (q : Nat) : NZ (numP s q) := by
  unfold numP
  have h1 := exp_nz s q 32
  cases he : expP s q 32 with
  | error e => rw [he] at h1; exact fun e' h => h1 e' (by injection h with h; rw [h])
  | ok q1 =>
    dsimp only
    have h2 := word_nz s q1
    cases hw : wordP s q1 with
    | error e => rw [hw] at h2; exact fun e' h => h2 e' (by injection h with h; rw [h])
    | ok r =>
      dsimp only; unfold numV; split
      · exact NZ.er (by decide)
      · split
        · exact NZ.er (by decide)
        · exact NZ.ok
theorem bytes_nz (s : List UInt8) (q : Nat) : NZ (bytesP s q) := by
  unfold bytesP
  have h1 := exp_nz s q 32
  cases he : expP s q 32 with
  | error e => rw [he] at h1; exact fun e' h => h1 e' (by injection h with h; rw [h])
  | ok q1 =>
    dsimp only
    have h2 := word_nz s q1
    cases hw : wordP s q1 with
    | error e => rw [hw] at h2; exact fun e' h => h2 e' (by injection h with h; rw [h])
    | ok r =>
      dsimp only; unfold hexW; split
      · exact NZ.ok
      · split
        · exact NZ.er (by decide)
        · exact NZ.ok
theorem a_nz (s : List UInt8) (u : Bool) (q : Nat) : NZ (aP s u q) := by unfold aP; split; exact num_nz s q; exact NZ.ok
theorem b_nz (s : List UInt8) (u : Bool) (q : Nat) : NZ (bP s u q) := by unfold bP; split; exact bytes_nz s q; exact NZ.ok
theorem args_nz (s : List UInt8) (k q : Nat) : NZ (argsP s k q) := by
  unfold argsP
  have h1 := a_nz s (useA k) q
  cases ha : aP s (useA k) q with
  | error e => rw [ha] at h1; exact fun e' h => h1 e' (by injection h with h; rw [h])
  | ok r =>
    dsimp only
    have h2 := b_nz s (useB k) r.2
    cases hb : bP s (useB k) r.2 with
    | error e => rw [hb] at h2; exact fun e' h => h2 e' (by injection h with h; rw [h])
    | ok r2 =>
      dsimp only
      have h3 := a_nz s (useC k) r2.2
      cases hc : aP s (useC k) r2.2 with
      | error e => rw [hc] at h3; exact fun e' h => h3 e' (by injection h with h; rw [h])
      | ok r3 =>
        dsimp only
        have h4 := exp_nz s r3.2 10
        cases he : expP s r3.2 10 with
        | error e => rw [he] at h4; exact fun e' h => h4 e' (by injection h with h; rw [h])
        | ok q4 => exact NZ.ok
theorem event_nz (s : List UInt8) (q : Nat) : NZ (eventP s q) := by
  unfold eventP
  have h1 := word_nz s q
  cases hw : wordP s q with
  | error e => rw [hw] at h1; exact fun e' h => h1 e' (by injection h with h; rw [h])
  | ok r =>
    dsimp only
    split
    · exact NZ.er (by decide)
    · exact args_nz _ _ _
theorem parseG_nz (s : List UInt8) : ∀ (f q n : Nat), s.length ≤ q + f → NZ (parseG s f q n)
  | 0, q, n, h => by unfold parseG; rw [if_pos (by omega)]; exact NZ.ok
  | f + 1, q, n, h => by
    unfold parseG
    split
    · exact NZ.ok
    · split
      · exact NZ.er (by decide)
      · have h1 := event_nz s q
        cases he : eventP s q with
        | error e => rw [he] at h1; exact fun e' h => h1 e' (by injection h with h; rw [h])
        | ok r =>
          obtain ⟨e, q1⟩ := r
          dsimp only
          have h2 := (event_back he).2.2.1
          have h3 := line_pos e
          have ih := parseG_nz s f q1 (n + 1) (by omega)
          cases hg : parseG s f q1 (n + 1) with
          | error e => rw [hg] at ih; exact fun e' h => ih e' (by injection h with h; rw [h])
          | ok l => exact NZ.ok
theorem parse_zero {s : List UInt8} (h : outC (parseP s) = 0) : ∃ l, parseP s = .ok l := by
  cases hp : parseP s with
  | ok l => exact ⟨l, rfl⟩
  | error e =>
    rw [hp] at h
    unfold parseP at hp
    split at hp
    · injection hp with hp; subst hp; cases h
    · exact absurd h (parseG_nz s _ 0 0 (by omega) e hp)


theorem few_eq {l : List Ev} : (l.drop 0).take (min l.length 20 - 0) = l.take 20 := by
  rw [List.drop_zero, Nat.sub_zero, Nat.min_comm, ← List.take_take, List.take_length]
theorem few_len {l : List Ev} : ((l.drop 0).take (min l.length 20 - 0)).length ≤ 20 := by rw [few_eq, List.length_take]; omega
theorem few_hlen {l : List Ev} (hl : l.length ≤ 20) (hb : ∀ i (hi : i < l.length), l[i].b.length ≤ 200) : ∀ k, (∀ i (hi : i < l.length), i < k → wrE l[i] = true) → (linesT (l.take k)).length ≤ 900000 := fun k hw => by
  have h1 := linesT_len (B := 200) (l.take k) fun e he => by
    obtain ⟨i, hi, rfl⟩ := List.mem_iff_getElem.1 he
    rw [List.length_take] at hi
    rw [List.getElem_take]
    exact ⟨(wr_iff _).1 (hw i (by omega) (by omega)), hb i (by omega)⟩
  have h2 : (l.take k).length ≤ 20 := by rw [List.length_take]; omega
  have h3 : (l.take k).length * (2 * 200 + 30) ≤ 20 * (2 * 200 + 30) := Nat.mul_le_mul_right _ h2
  omega
theorem few_b {l : List Ev} (hb : ∀ i (hi : i < l.length), l[i].b.length ≤ 200) : ∀ e ∈ l, e.b.length ≤ 400000 := fun e he => by
  obtain ⟨i, hi, rfl⟩ := List.mem_iff_getElem.1 he
  have := hb i hi; omega


set_option maxHeartbeats 2000000 in
set_option maxRecDepth 10000 in
theorem lawFormat {G : Ghost} {v : Value} {l : List Ev} (hx : Evs G v l) (hl : l.length ≤ 1048576) (hT : Tab10 G) :
  FnOk Tryz.prog 4 [v] G [] fun r _ H' => H' = [] ∧ r = .bool true := by
 obtain ⟨A, cap, rfl⟩ := LstR.slice hx
 refine FnOk.of_T [(0, _)] Tryz.func4 rfl Tryz.ntmps4 (by simp) rfl fun w0 hs => ?_
 have hx0 := hx
 have hT0 := hT
 refine T_seq (T_region rfl ?_)
 refine O_a rfl ?_
 refine O_nil (T_kp [0] rfl ?_)
 refine T_seq (T_region rfl ?_)
 refine O_s (S_call (H1 := []) hs rfl Tryz.func11 rfl (by kernel_rfl) (sanity_ok hT) fun v1 G' H' _ hR hG6 hs => ?_)
 obtain ⟨rfl, rfl⟩ := hR
 replace hs : St _ _ [] _ := hs
 replace hx := hx.mono hG6
 replace hT := hT.mono hG6
 refine O_a rfl ?_
 refine O_nil (T_kp [0, 3] rfl ?_)
 refine T_seq (T_region rfl ?_)
 refine O_m rfl ?_
 refine O_m rfl ?_
 refine O_y hs (Y_len Tryz.underlying22 rfl ?_)
 refine O_y hs (Y_min (c := ((min l.length 20 : Nat) : Int)) rfl rfl (by omega) ?_)
 refine O_y hs (Y_sliceS hx 0 (min l.length 20) Tryz.underlying22 Tryz.sizeOf36 rfl rfl ⟨_, _, rfl, rfl⟩ (by omega) (by omega) fun A11 n11 c11 hn11 hfw => ?_)
 obtain ⟨few, hfe⟩ : ∃ few, few = ((l.drop 0).take (min l.length 20 - 0)) := ⟨_, rfl⟩
 have hfl : few.length ≤ 20 := by rw [hfe]; exact few_len
 rw [← hfe] at hn11 hfw
 subst hn11
 replace hfw : Evs _ _ few := hfw
 refine O_a rfl ?_
 refine O_nil (T_kp [0, 3, 4] rfl ?_)
 refine T_seq (T_seq (T_region rfl ?_))
 refine O_a rfl ?_
 refine O_nil (T_kp [0, 3, 4, 5] rfl ?_)
 refine T_block (T_loop (fun m E w => ∃ (k : Nat) (G2 : Ghost), Evs G2 (.slice A11 few.length c11) few ∧ k ≤ few.length ∧ (∀ i (hi : i < few.length), i < k → few[i].b.length ≤ 200) ∧ m = few.length - k ∧ E = ⟨[], [(0, (.slice A l.length cap)), (3, .bool true), (4, .slice A11 few.length c11), (5, .int .i64 (k : Int))]⟩ ∧ St ⟨w0, G, feet []⟩ G2 [] w) (L := [(0, _), (3, _), (4, _), (5, _)]) ⟨rfl, rfl, rfl, rfl, trivial⟩ (⟨0, _, hfw, by omega, fun i _ h => absurd h (by omega), rfl, rfl, hs⟩) fun m E w hI => ?_)
 obtain ⟨k, G2, hfw, hk, hbk, rfl, rfl, hs⟩ := hI
 have hx := hx0.mono hs.le
 have hT := hT0.mono hs.le
 refine T_seq (T_seq (T_region rfl ?_))
 refine O_m rfl ?_
 refine O_m rfl ?_
 refine O_y hs (Y_len Tryz.underlying22 rfl ?_)
 refine O_y hs (Y_cmpS rfl rfl rfl (fun h15 => ?_) (fun h15 => ?_))
 ·
  dsimp only [cmpP] at h15
  refine O_nil (T_kp [0, 3, 4, 5, 15] rfl ?_)
  refine T_condT rfl (T_skip ?_)
  refine T_seq (T_block (T_seq (T_region rfl ?_)))
  refine O_m rfl ?_
  refine O_m rfl ?_
  refine O_y hs (Y_idxS hfw k Tryz.underlying22 Tryz.sizeOf36 rfl rfl rfl (by omega) fun p20 c20 hp20 hc20 hR20 => ?_)
  obtain ⟨ve20, rfl, hbe20⟩ := hR20
  obtain ⟨A20, c20, rfl, _⟩ := id hbe20
  refine O_y hs (Y_fieldAddrP FO36_3 rfl ?_)
  refine O_y hs (Y_ldG Tryz.isAgg25 rfl (hp20 3 (.slice A20 (few[k]'(by omega)).b.length c20) rfl) ?_)
  refine O_y hs (Y_len Tryz.underlying25 rfl ?_)
  refine O_y hs (Y_cmpS rfl rfl rfl (fun h24 => ?_) (fun h24 => ?_))
  ·
   dsimp only [cmpP] at h24
   refine O_nil (T_kp [0, 3, 4, 5, 24] rfl ?_)
   refine T_condT rfl (T_seq (T_region rfl ?_))
   refine O_m rfl ?_
   refine O_a rfl ?_
   refine O_nil (T_kp [2] rfl ?_)
   refine T_ret ?_
   refine Rt_fin (vs := [_]) Tryz.results4 rfl ⟨rfl, trivial⟩ ?_
   try dsimp only [tup]
   exact ⟨_, [], hs.done, rfl, rfl⟩
  ·
   dsimp only [cmpP] at h24
   refine O_nil (T_kp [0, 3, 4, 5, 24] rfl ?_)
   refine T_condF rfl (T_skip ?_)
   refine T_region rfl ?_
   refine O_m rfl ?_
   refine O_y hs (Y_add (c := ((k + 1 : Nat) : Int)) rfl rfl (by omega) (by omega) ?_)
   refine O_a rfl ?_
   refine O_nil ⟨_, ?_, [(0, _), (3, _), (4, _), (5, _)], ⟨rfl, rfl, rfl, rfl, trivial⟩, ⟨k + 1, _, hfw, by omega, fun i hi h => (Nat.lt_or_ge i k).elim (hbk i hi) (fun h' => by have hik : i = k := (by omega); subst hik; omega), rfl, rfl, hs⟩⟩
   omega
 ·
  dsimp only [cmpP] at h15
  refine O_nil (T_kp [0, 3, 4, 5, 15] rfl ?_)
  refine T_condF rfl (T_exit ?_)
  refine T_seq (T_region rfl ?_)
  refine O_m rfl ?_
  refine O_s (S_call (H1 := []) hs rfl Tryz.func17 rfl (by kernel_rfl) (fmt_ok hfw hT (few_b (fun i hi => hbk i hi (by omega))) (few_hlen hfl (fun i hi => hbk i hi (by omega))) (by omega)) fun v2 G' H' _ hR hG27 hs => ?_)
  obtain ⟨rfl, rfl⟩ := hR
  replace hs : St _ _ [] _ := hs
  replace hx := hx.mono hG27
  replace hT := hT.mono hG27
  replace hfw := hfw.mono hG27
  refine O_m rfl ?_
  refine O_s (S_call (H1 := []) hs rfl Tryz.func12 rfl (by kernel_rfl) (rfmt_ok hfw (few_b (fun i hi => hbk i hi (by omega))) (few_hlen hfl (fun i hi => hbk i hi (by omega))) (by omega)) fun v3 G' H' _ hR hG29 hs => ?_)
  obtain ⟨rfl, rfl⟩ := hR
  replace hs : St _ _ [] _ := hs
  replace hx := hx.mono hG29
  replace hT := hT.mono hG29
  replace hfw := hfw.mono hG29
  refine O_y hs (Y_strEq (b := true) rfl rfl (str_iff rfl) ?_)
  refine O_m rfl ?_
  refine O_yy 31 hs rfl rfl (Y_move rfl ?_)
  refine O_yes 31 rfl rfl (S_call (H1 := []) hs rfl Tryz.func13 rfl (by kernel_rfl) (made_ok hx) fun v4 G' H' _ hR hG33 hs => ?_)
  obtain ⟨rfl, hmd⟩ := hR
  replace hs : St _ _ [] _ := hs
  replace hx := hx.mono hG33
  replace hT := hT.mono hG33
  replace hfw := hfw.mono hG33
  refine O_yes 31 rfl rfl (S_call (H1 := []) hs rfl Tryz.func17 rfl (by kernel_rfl) (fmt_ok hmd hT (made_bl l) (made_hlen l) (by have := madeL_len l; omega)) fun v5 G' H' _ hR hG34 hs => ?_)
  obtain ⟨rfl, rfl⟩ := hR
  replace hs : St _ _ [] _ := hs
  replace hx := hx.mono hG34
  replace hT := hT.mono hG34
  replace hfw := hfw.mono hG34
  replace hmd := hmd.mono hG34
  refine O_yy 31 hs rfl rfl (Y_move rfl ?_)
  refine O_yes 31 rfl rfl (S_call (H1 := []) hs rfl Tryz.func13 rfl (by kernel_rfl) (made_ok hx) fun v6 G' H' _ hR hG36 hs => ?_)
  obtain ⟨rfl, hmd2⟩ := hR
  replace hs : St _ _ [] _ := hs
  replace hx := hx.mono hG36
  replace hT := hT.mono hG36
  replace hfw := hfw.mono hG36
  replace hmd := hmd.mono hG36
  refine O_yes 31 rfl rfl (S_call (H1 := []) hs rfl Tryz.func12 rfl (by kernel_rfl) (rfmt_ok hmd2 (made_bl l) (made_hlen l) (by have := madeL_len l; omega)) fun v7 G' H' _ hR hG37 hs => ?_)
  obtain ⟨rfl, rfl⟩ := hR
  replace hs : St _ _ [] _ := hs
  replace hx := hx.mono hG37
  replace hT := hT.mono hG37
  replace hfw := hfw.mono hG37
  replace hmd := hmd.mono hG37
  replace hmd2 := hmd2.mono hG37
  refine O_yy 31 hs rfl rfl (Y_strEq (b := true) rfl rfl (str_iff rfl) ?_)
  refine O_y hs (Y_pickT rfl rfl ?_)
  refine O_m rfl ?_
  refine O_yy 40 hs rfl rfl (Y_move rfl ?_)
  refine O_y hs (Y_pickT rfl rfl ?_)
  refine O_a rfl ?_
  refine O_nil (T_kp [2] rfl ?_)
  refine T_ret ?_
  refine Rt_fin (vs := [_]) Tryz.results4 rfl ⟨rfl, trivial⟩ ?_
  try dsimp only [tup]
  exact ⟨_, [], hs.done, rfl, rfl⟩

end Go.Proofs.YtcnljflihhggiaaGreatDoor
