import Derived.Test.YtcnljflihhggiaaGreatDoorExWalks4
import Derived.Test.YtcnljflihhggiaaGreatDoorProg
import Derived.Test.YtcnljflihhggiaaGreatDoorPlain
import Derived.Test.YtcnljflihhggiaaGreatDoorExThin
import Derived.Test.YtcnljflihhggiaaGreatDoorExOrders
import Derived.Test.YtcnljflihhggiaaGreatDoorShelf
namespace Go.Proofs.YtcnljflihhggiaaGreatDoor
open Go Go.Ex Go.RowKit
theorem FO49_0 : fieldOff Tryz.prog 49 0 = some 0 := by kernel_rfl
theorem FO49_1 : fieldOff Tryz.prog 49 1 = some 1 := by kernel_rfl
theorem FO49_3 : fieldOff Tryz.prog 49 3 = some 3 := by kernel_rfl
theorem PL49 : places Tryz.prog 49 = some [(0, 1), (1, 1), (2, 1), (3, 1)] := by kernel_rfl
theorem PL70 : places Tryz.prog 70 = some [(0, 1), (1, 1), (2, 1), (3, 1)] := by kernel_rfl

theorem ref_step {s : List UInt8} {l : List Ev} {f : Nat} {st st2 : PS} {e : Ev} (hpr : parseP s = catE l (parseG s (f + 1) st.p l.length)) (h0 : st.err = 0) (hp : st.p < s.length) (hn : ¬ l.length = 400) (hqf : s.length ≤ st.p + (f + 1) ∧ l.length ≤ 400) (hg : Got (thenE st.ex (eventP s)) st2 e) :
    (st2.err = 0 → parseP s = catE (l ++ [e]) (parseG s f st2.p (l ++ [e]).length) ∧ s.length ≤ st2.p + f ∧ (l ++ [e]).length ≤ 400) ∧ (¬ st2.err = 0 → parseP s = .error (st2.err, st2.off)) := by
  rw [thenE_ok h0] at hg
  cases hev : eventP s st.p with
  | error e' =>
    rw [hev] at hg
    have h1 : st2.ex = .error e' := hg
    obtain ⟨h2, h3⟩ := ex_err h1
    refine ⟨fun h => absurd h h2, fun _ => ?_⟩
    rw [hpr, go_err hp hqf.1 hn hev, ← h3]; rfl
  | ok r =>
    obtain ⟨e', q⟩ := r
    rw [hev] at hg
    obtain ⟨h1, rfl⟩ := hg
    obtain ⟨h2, h3⟩ := ex_pos h1
    refine ⟨fun _ => ⟨?_, ?_, ?_⟩, fun h => absurd h2 h⟩
    · rw [hpr, go_ok l hp hn hev, h3, List.length_append]; rfl
    · have h4 := (event_back hev).2.2.1
      have h5 := line_pos e
      omega
    · rw [List.length_append, List.length_singleton]; omega


set_option maxHeartbeats 1000000 in
set_option maxRecDepth 10000 in
theorem rpar_ok {G : Ghost} {s : List UInt8} (hl : s.length ≤ 2000000) :
  FnOk Tryz.prog 15 [.string ⟨s.toArray⟩] G [] fun r G' H' => H' = [] ∧ ParseR G' r (parseP s) := by
 have hsz := bsz s
 refine FnOk.of_T [(0, _)] Tryz.func15 rfl Tryz.ntmps15 (by simp) rfl fun w0 hs => ?_
 refine T_seq (T_region rfl ?_)
 refine O_a rfl ?_
 refine O_a rfl ?_
 refine O_a rfl ?_
 refine O_nil (T_kp [0] rfl ?_)
 refine T_seq (T_seq (T_region rfl ?_))
 refine O_m rfl ?_
 refine O_y hs (Y_lenS Tryz.underlying9 rfl ?_)
 refine O_y hs (Y_cmpS rfl rfl rfl (fun h9 => ?_) (fun h9 => ?_))
 ·
  dsimp only [cmpP] at h9
  refine O_nil (T_kp [0, 9] rfl ?_)
  refine T_condT rfl (T_seq (T_region rfl ?_))
  refine O_a rfl ?_
  refine O_a rfl ?_
  refine O_a rfl ?_
  refine O_nil (T_kp [2, 3, 4] rfl ?_)
  refine T_ret ?_
  refine Rt_fin (vs := [_, _, _]) Tryz.results15 rfl ⟨rfl, rfl, rfl, trivial⟩ ?_
  try dsimp only [tup]
  exact ⟨_, [], hs.done, rfl, by rw [parse_big (by omega)]; exact ⟨_, LstR.nil, rfl⟩⟩
 ·
  dsimp only [cmpP] at h9
  refine O_nil (T_kp [0, 9] rfl ?_)
  refine T_condF rfl (T_skip ?_)
  refine T_seq (T_region rfl ?_)
  refine O_m rfl ?_
  refine O_y hs (Y_build Tryz.zeroValue70 rfl PL70 rfl (cs := [_, _, _, _]) rfl ?_)
  refine O_s (S_box hs rfl (cs := [_, _, _, _]) rfl fun b12 _ hs => ?_)
  refine O_s (S_lit hs Tryz.underlying22 Tryz.sizeOf36 Tryz.zeroValue36 rfl rfl (by decide) (by decide) rfl (cs := []) rfl rfl fun v1 _ hs _ => ?_)
  refine O_a rfl ?_
  refine O_a rfl ?_
  refine O_nil (T_kp [0, 5, 6] rfl ?_)
  have hs := hs.f1
  have hs := hs.f1
  have hpr0 := parse_open (s := s) (by omega)
  refine T_seq (T_block (T_loop (fun m E w => ∃ (f : Nat) (l : List Ev) (cs : List (List Value)) (st : PS) (v : Value) (G' : Ghost), st.p ≤ s.length ∧ (st.err = 0 → parseP s = catE l (parseG s f st.p l.length) ∧ s.length ≤ st.p + f ∧ l.length ≤ 400) ∧ (¬ st.err = 0 → parseP s = .error (st.err, st.off)) ∧ EvCs G' cs l ∧ m = f ∧ E = ⟨[], [(0, .string ⟨s.toArray⟩), (5, .pointer (some ⟨b12, 0, none⟩)), (6, v)]⟩ ∧ St ⟨w0, G, feet []⟩ G' [.row 36 4 v l.length cs.flatten, .blk b12 70 [.string ⟨s.toArray⟩, .int .i64 (st.p : Int), .int .i64 st.err, .int .i64 (st.off : Int)]] w) (L := [(0, _), (5, _), (6, _)]) ⟨rfl, rfl, rfl, trivial⟩ (⟨s.length, [], [], ⟨0, 0, 0⟩, _, _, by simp, fun _ => ⟨hpr0, by simp, by simp⟩, fun h => absurd rfl h, EvCs.nil _, rfl, rfl, hs⟩) fun m E w hI => ?_))
  obtain ⟨f, l, cs, st, v, G', hstp, hin, her, hec, rfl, rfl, hs⟩ := hI
  refine T_seq (T_seq (T_region rfl ?_))
  refine O_m rfl ?_
  refine O_y hs (Y_nil rfl ?_)
  refine O_y hs (Y_fieldAddr FO70_2 rfl (m := 2) rfl ?_)
  refine O_y hs (Y_ld 1 Tryz.isAgg30 rfl rfl rfl ?_)
  refine O_y hs (Y_cmpS rfl rfl rfl (fun h18 => ?_) (fun h18 => ?_))
  ·
   dsimp only [cmpP] at h18
   refine O_m rfl ?_
   refine O_yy 19 hs rfl rfl (Y_move rfl ?_)
   refine O_yy 19 hs rfl rfl (Y_nil rfl ?_)
   refine O_yy 19 hs rfl rfl (Y_fieldAddr FO70_1 rfl (m := 1) rfl ?_)
   refine O_yy 19 hs rfl rfl (Y_ld 1 Tryz.isAgg3 rfl rfl rfl ?_)
   refine O_yy 19 hs rfl rfl (Y_move rfl ?_)
   refine O_yy 19 hs rfl rfl (Y_lenS Tryz.underlying9 rfl ?_)
   refine O_yy 19 hs rfl rfl (Y_cmpS rfl rfl rfl (fun h26 => ?_) (fun h26 => ?_))
   ·
    dsimp only [cmpP] at h26
    refine O_y hs (Y_pickT rfl rfl ?_)
    refine O_nil (T_kp [0, 5, 6, 27] rfl ?_)
    refine T_condT rfl (T_skip ?_)
    refine T_block (T_seq (T_seq (T_region rfl ?_)))
    refine O_m rfl ?_
    refine O_y hs (Y_lenOwn 0 rfl Tryz.underlying22 rfl hs ?_)
    refine O_y hs (Y_cmpS rfl rfl rfl (fun h30 => ?_) (fun h30 => ?_))
    ·
     dsimp only [cmpP] at h30
     refine O_nil (T_kp [0, 5, 6, 30] rfl ?_)
     refine T_condT rfl (T_seq (T_drawS [0, 1, 2, 3, 4, 5, 6] hs (by kernel_rfl) ?_))
     replace hs := hs.drew
     refine A_take 0 rfl (by kernel_rfl) rfl hs (Y_move rfl ?_)
     refine A_take 1 rfl (by kernel_rfl) rfl hs (Y_nil rfl ?_)
     refine A_take 2 rfl (by kernel_rfl) rfl hs (Y_fieldAddr FO70_1 rfl (m := 1) rfl ?_)
     refine A_take 3 rfl (by kernel_rfl) rfl hs (Y_ld 1 Tryz.isAgg3 rfl rfl rfl ?_)
     refine A_take 4 rfl (by kernel_rfl) rfl hs (Y_assign rfl ?_)
     refine A_take 5 rfl (by kernel_rfl) rfl hs (Y_assign rfl ?_)
     refine A_take 6 rfl (by kernel_rfl) rfl hs (Y_assign rfl ?_)
     refine A_done (by kernel_rfl) (T_kp [2, 3, 4] rfl ?_)
     refine T_ret ?_
     refine Rt_fin (vs := [_, _, _]) Tryz.results15 rfl ⟨rfl, rfl, rfl, trivial⟩ ?_
     try dsimp only [tup]
     obtain ⟨hpr, hqf, hl4⟩ := hin h18
     have hr1 : parseP s = .error (2, st.p) := by rw [hpr, go_400 (by omega) hqf (by omega)]; rfl
     exact ⟨_, [], hs.done, rfl, by rw [hr1]; exact ⟨_, LstR.nil, rfl⟩⟩
    ·
     dsimp only [cmpP] at h30
     refine O_nil (T_kp [0, 5, 6, 30] rfl ?_)
     refine T_condF rfl (T_skip ?_)
     refine T_region rfl ?_
     refine O_m rfl ?_
     refine O_m rfl ?_
     have hs := hs.f1
     refine O_s (S_call (H1 := [_]) hs rfl Tryz.func27 rfl (by kernel_rfl) (revt_ok (st := st) (by assumption) (by omega) h18) fun v2 G' H' _ hR hG37 hs => ?_)
     obtain ⟨st2, e, vb, rfl, rfl, hvb, hgst2, hpst2⟩ := hR
     replace hs : St _ _ [_, _] _ := hs
     replace hec := hec.mono hG37
     refine O_s (S_lit hs Tryz.underlying22 Tryz.sizeOf36 Tryz.zeroValue36 rfl rfl (by decide) (by decide) rfl (cs := [_, _, _, _]) rfl rfl fun v3 _ hs _ => ?_)
     obtain ⟨_, hG38, hl38, hs⟩ := hs.fixRow noM
     replace hec := hec.mono hG38
     replace hvb := hvb.mono hG38
     have hs := hs.f1
     refine O_s (S_append hs Tryz.underlying22 TI36 rfl (by decide) rfl rfl (hl38) (one4 hvb) (by have := (hin h18).2.2; omega) (by have := (hin h18).2.2; omega) fun v4 _ hs => ?_)
     refine O_a rfl ?_
     have hs := hs.f1
     have hs := hs.f1
     obtain ⟨f1, rfl⟩ : ∃ k, m = k + 1 := ⟨m - 1, by omega⟩
     obtain ⟨hpr, hqf, hl4⟩ := hin h18
     have hgo := ref_step (f := f1) hpr h18 (by omega) (by omega) ⟨hqf, hl4⟩ hgst2 (s := s)
     refine O_nil ⟨_, ?_, [(0, _), (5, _), (6, _)], ⟨rfl, rfl, rfl, trivial⟩, ⟨f1, l ++ [e], _, st2, _, _, hpst2, hgo.1, hgo.2, hec.snoc hvb, rfl, rfl, by rw [flat_snoc, List.length_append]; exact hs⟩⟩
     omega
   ·
    dsimp only [cmpP] at h26
    refine O_y hs (Y_pickT rfl rfl ?_)
    refine O_nil (T_kp [0, 5, 6, 27] rfl ?_)
    refine T_condF rfl (T_exit ?_)
    refine T_seq (T_seq (T_region rfl ?_))
    refine O_m rfl ?_
    refine O_y hs (Y_nil rfl ?_)
    refine O_y hs (Y_fieldAddr FO70_2 rfl (m := 2) rfl ?_)
    refine O_y hs (Y_ld 1 Tryz.isAgg30 rfl rfl rfl ?_)
    refine O_y hs (Y_cmpS rfl rfl rfl (fun h44 => ?_) (fun h44 => ?_))
    ·
     dsimp only [cmpP] at h44
     refine O_nil (T_kp [5, 6, 44] rfl ?_)
     refine T_condT rfl (T_seq (T_drawS [0, 1, 2, 3, 4, 5, 6, 7, 8, 9, 10] hs (by kernel_rfl) ?_))
     replace hs := hs.drew
     refine A_take 0 rfl (by kernel_rfl) rfl hs (Y_move rfl ?_)
     refine A_take 1 rfl (by kernel_rfl) rfl hs (Y_nil rfl ?_)
     refine A_take 2 rfl (by kernel_rfl) rfl hs (Y_fieldAddr FO70_3 rfl (m := 3) rfl ?_)
     refine A_take 3 rfl (by kernel_rfl) rfl hs (Y_ld 1 Tryz.isAgg3 rfl rfl rfl ?_)
     refine A_take 4 rfl (by kernel_rfl) rfl hs (Y_move rfl ?_)
     refine A_take 5 rfl (by kernel_rfl) rfl hs (Y_nil rfl ?_)
     refine A_take 6 rfl (by kernel_rfl) rfl hs (Y_fieldAddr FO70_2 rfl (m := 2) rfl ?_)
     refine A_take 7 rfl (by kernel_rfl) rfl hs (Y_ld 1 Tryz.isAgg30 rfl rfl rfl ?_)
     refine A_take 8 rfl (by kernel_rfl) rfl hs (Y_assign rfl ?_)
     refine A_take 9 rfl (by kernel_rfl) rfl hs (Y_assign rfl ?_)
     refine A_take 10 rfl (by kernel_rfl) rfl hs (Y_assign rfl ?_)
     refine A_done (by kernel_rfl) (T_kp [2, 3, 4] rfl ?_)
     refine T_ret ?_
     refine Rt_fin (vs := [_, _, _]) Tryz.results15 rfl ⟨rfl, rfl, rfl, trivial⟩ ?_
     try dsimp only [tup]
     have hr1 := her h44
     exact ⟨_, [], hs.done, rfl, by rw [hr1]; exact ⟨_, LstR.nil, rfl⟩⟩
    ·
     dsimp only [cmpP] at h44
     refine O_nil (T_kp [5, 6, 44] rfl ?_)
     refine T_condF rfl (T_skip ?_)
     refine T_seq (T_region rfl ?_)
     refine O_m rfl ?_
     refine O_a rfl ?_
     refine O_a rfl ?_
     refine O_a rfl ?_
     refine O_nil (T_kp [2, 3, 4] rfl ?_)
     refine T_ret ?_
     refine Rt_fin (vs := [_, _, _]) Tryz.results15 rfl ⟨rfl, rfl, rfl, trivial⟩ ?_
     try dsimp only [tup]
     obtain ⟨hpr, hqf, hl4⟩ := hin (by omega)
     have hr1 : parseP s = .ok l := by rw [hpr, go_end (by omega)]; simp [catE]
     obtain ⟨G9, hG9, hf, hs⟩ := hs.fixRow noM
     exact ⟨_, [], hs.done, rfl, by rw [hr1]; exact ⟨_, evs_of hf rfl rfl (hec.mono hG9), rfl⟩⟩
  ·
   dsimp only [cmpP] at h18
   refine O_m rfl ?_
   refine O_no 19 rfl rfl ?_
   refine O_no 19 rfl rfl ?_
   refine O_no 19 rfl rfl ?_
   refine O_no 19 rfl rfl ?_
   refine O_no 19 rfl rfl ?_
   refine O_no 19 rfl rfl ?_
   refine O_no 19 rfl rfl ?_
   refine O_y hs (Y_pickF rfl rfl ?_)
   refine O_nil (T_kp [0, 5, 6, 27] rfl ?_)
   refine T_condF rfl (T_exit ?_)
   refine T_seq (T_seq (T_region rfl ?_))
   refine O_m rfl ?_
   refine O_y hs (Y_nil rfl ?_)
   refine O_y hs (Y_fieldAddr FO70_2 rfl (m := 2) rfl ?_)
   refine O_y hs (Y_ld 1 Tryz.isAgg30 rfl rfl rfl ?_)
   refine O_y hs (Y_cmpS rfl rfl rfl (fun h44 => ?_) (fun h44 => ?_))
   ·
    dsimp only [cmpP] at h44
    refine O_nil (T_kp [5, 6, 44] rfl ?_)
    refine T_condT rfl (T_seq (T_drawS [0, 1, 2, 3, 4, 5, 6, 7, 8, 9, 10] hs (by kernel_rfl) ?_))
    replace hs := hs.drew
    refine A_take 0 rfl (by kernel_rfl) rfl hs (Y_move rfl ?_)
    refine A_take 1 rfl (by kernel_rfl) rfl hs (Y_nil rfl ?_)
    refine A_take 2 rfl (by kernel_rfl) rfl hs (Y_fieldAddr FO70_3 rfl (m := 3) rfl ?_)
    refine A_take 3 rfl (by kernel_rfl) rfl hs (Y_ld 1 Tryz.isAgg3 rfl rfl rfl ?_)
    refine A_take 4 rfl (by kernel_rfl) rfl hs (Y_move rfl ?_)
    refine A_take 5 rfl (by kernel_rfl) rfl hs (Y_nil rfl ?_)
    refine A_take 6 rfl (by kernel_rfl) rfl hs (Y_fieldAddr FO70_2 rfl (m := 2) rfl ?_)
    refine A_take 7 rfl (by kernel_rfl) rfl hs (Y_ld 1 Tryz.isAgg30 rfl rfl rfl ?_)
    refine A_take 8 rfl (by kernel_rfl) rfl hs (Y_assign rfl ?_)
    refine A_take 9 rfl (by kernel_rfl) rfl hs (Y_assign rfl ?_)
    refine A_take 10 rfl (by kernel_rfl) rfl hs (Y_assign rfl ?_)
    refine A_done (by kernel_rfl) (T_kp [2, 3, 4] rfl ?_)
    refine T_ret ?_
    refine Rt_fin (vs := [_, _, _]) Tryz.results15 rfl ⟨rfl, rfl, rfl, trivial⟩ ?_
    try dsimp only [tup]
    have hr1 := her h44
    exact ⟨_, [], hs.done, rfl, by rw [hr1]; exact ⟨_, LstR.nil, rfl⟩⟩
   ·
    dsimp only [cmpP] at h44
    refine O_nil (T_kp [5, 6, 44] rfl ?_)
    refine T_condF rfl (T_skip ?_)
    refine T_seq (T_region rfl ?_)
    refine O_m rfl ?_
    refine O_a rfl ?_
    refine O_a rfl ?_
    refine O_a rfl ?_
    refine O_nil (T_kp [2, 3, 4] rfl ?_)
    refine T_ret ?_
    refine Rt_fin (vs := [_, _, _]) Tryz.results15 rfl ⟨rfl, rfl, rfl, trivial⟩ ?_
    try dsimp only [tup]
    obtain ⟨hpr, hqf, hl4⟩ := hin (by omega)
    have hr1 : parseP s = .ok l := by rw [hpr, go_end (by omega)]; simp [catE]
    obtain ⟨G9, hG9, hf, hs⟩ := hs.fixRow noM
    exact ⟨_, [], hs.done, rfl, by rw [hr1]; exact ⟨_, evs_of hf rfl rfl (hec.mono hG9), rfl⟩⟩

set_option maxHeartbeats 400000 in
set_option maxRecDepth 10000 in
theorem chk0_ok {G : Ghost} :
  FnOk Tryz.prog 68 [.agg #[.slice none 0 0, .slice none 0 0, .slice none 0 0, .slice none 0 0]] G [] fun r _ H' => H' = [] ∧ r = .tuple #[.map none, .int .i64 1] := by
 refine FnOk.of_T [(0, _)] Tryz.func68 rfl Tryz.ntmps68 (by simp) rfl fun w0 hs => ?_
 refine T_seq (T_region rfl ?_)
 refine O_s (S_box hs rfl (cs := [_, _, _, _]) rfl fun b1 _ hs => ?_)
 refine O_a rfl ?_
 refine O_a rfl ?_
 refine O_nil (T_kp [1] rfl ?_)
 refine T_seq (T_seq (T_region rfl ?_))
 refine O_y hs (Y_fieldAddr FO49_0 rfl (m := 0) rfl ?_)
 refine O_y hs (Y_ld 0 Tryz.isAgg44 rfl rfl rfl ?_)
 refine O_y hs (Y_len Tryz.underlying44 rfl ?_)
 refine O_y hs (Y_cmpF rfl rfl rfl (by decide) ?_)
 refine O_m rfl ?_
 refine O_yy 20 hs rfl rfl (Y_fieldAddr FO49_1 rfl (m := 1) rfl ?_)
 refine O_yy 20 hs rfl rfl (Y_ld 0 Tryz.isAgg45 rfl rfl rfl ?_)
 refine O_yy 20 hs rfl rfl (Y_len Tryz.underlying45 rfl ?_)
 refine O_yy 20 hs rfl rfl (Y_cmpF rfl rfl rfl (by decide) ?_)
 refine O_y hs (Y_pickF rfl rfl ?_)
 refine O_m rfl ?_
 refine O_yy 26 hs rfl rfl (Y_fieldAddr FO49_3 rfl (m := 3) rfl ?_)
 refine O_yy 26 hs rfl rfl (Y_ld 0 Tryz.isAgg47 rfl rfl rfl ?_)
 refine O_yy 26 hs rfl rfl (Y_len Tryz.underlying47 rfl ?_)
 refine O_yy 26 hs rfl rfl (Y_cmpF rfl rfl rfl (by decide) ?_)
 refine O_y hs (Y_pickF rfl rfl ?_)
 refine O_nil (T_kp [1, 31] rfl ?_)
 refine T_condF rfl (T_skip ?_)
 refine T_seq (T_seq (T_region rfl ?_))
 refine O_y hs (Y_fieldAddr FO49_0 rfl (m := 0) rfl ?_)
 refine O_y hs (Y_ld 0 Tryz.isAgg44 rfl rfl rfl ?_)
 refine O_y hs (Y_len Tryz.underlying44 rfl ?_)
 refine O_y hs (Y_cmpT rfl rfl rfl (rfl) ?_)
 refine O_m rfl ?_
 refine O_no 36 rfl rfl ?_
 refine O_no 36 rfl rfl ?_
 refine O_no 36 rfl rfl ?_
 refine O_no 36 rfl rfl ?_
 refine O_y hs (Y_pickT rfl rfl ?_)
 refine O_nil (T_kp [1, 41] rfl ?_)
 refine T_condT rfl (T_seq (T_region rfl ?_))
 refine O_a rfl ?_
 refine O_a rfl ?_
 refine O_nil (T_kp [2, 3] rfl ?_)
 refine T_ret ?_
 refine Rt_fin (vs := [_, _]) Tryz.results68 rfl ⟨rfl, rfl, trivial⟩ ?_
 try dsimp only [tup]
 exact ⟨_, [], hs.done, rfl, rfl⟩

set_option maxHeartbeats 400000 in
set_option maxRecDepth 10000 in
theorem fval0_ok {G : Ghost} :
  FnOk Tryz.prog 36 [.agg #[.slice none 0 0, .slice none 0 0, .slice none 0 0, .slice none 0 0]] G [] fun r _ H' => H' = [] ∧ r = .int .i64 1 := by
 refine FnOk.of_T [(0, _)] Tryz.func36 rfl Tryz.ntmps36 (by simp) rfl fun w0 hs => ?_
 refine T_seq (T_region rfl ?_)
 refine O_s (S_box hs rfl (cs := [_, _, _, _]) rfl fun b1 _ hs => ?_)
 refine O_a rfl ?_
 refine O_nil (T_kp [1] rfl ?_)
 refine T_seq (T_region rfl ?_)
 refine O_y hs (Y_ldA 0 Tryz.isAgg49 Tryz.sizeOf49 rfl rfl (vs := [_, _, _, _]) rfl rfl ?_)
 refine O_s (S_call (H1 := []) hs rfl Tryz.func68 rfl (by kernel_rfl) (chk0_ok) fun v1 G' H' _ hR hG7 hs => ?_)
 obtain ⟨rfl, rfl⟩ := hR
 replace hs : St _ _ [_] _ := hs
 refine O_m rfl ?_
 refine O_y hs (Y_extract rfl rfl ?_)
 refine O_y hs (Y_extract rfl rfl ?_)
 refine O_a rfl ?_
 refine O_a rfl ?_
 refine O_nil (T_kp [4] rfl ?_)
 refine T_seq (T_region rfl ?_)
 refine O_m rfl ?_
 refine O_a rfl ?_
 refine O_nil (T_kp [2] rfl ?_)
 refine T_ret ?_
 refine Rt_fin (vs := [_]) Tryz.results36 rfl ⟨rfl, trivial⟩ ?_
 try dsimp only [tup]
 exact ⟨_, [], hs.done, rfl, rfl⟩

set_option maxHeartbeats 400000 in
set_option maxRecDepth 10000 in
theorem sval0_ok {G : Ghost} :
  FnOk Tryz.prog 19 [.agg #[.slice none 0 0, .slice none 0 0, .slice none 0 0, .slice none 0 0], .slice none 0 0] G [] fun r _ H' => H' = [] ∧ r = .tuple #[.int .i64 0, .int .i64 1] := by
 refine FnOk.of_T [(0, _), (1, _)] Tryz.func19 rfl Tryz.ntmps19 (by simp) rfl fun w0 hs => ?_
 refine T_seq (T_region rfl ?_)
 refine O_s (S_box hs rfl (cs := [_, _, _, _]) rfl fun b2 _ hs => ?_)
 refine O_a rfl ?_
 refine O_a rfl ?_
 refine O_nil (T_kp [1, 2] rfl ?_)
 refine T_seq (T_seq (T_region rfl ?_))
 refine O_y hs (Y_ldA 0 Tryz.isAgg49 Tryz.sizeOf49 rfl rfl (vs := [_, _, _, _]) rfl rfl ?_)
 refine O_s (S_call (H1 := []) hs rfl Tryz.func36 rfl (by kernel_rfl) (fval0_ok) fun v1 G' H' _ hR hG12 hs => ?_)
 obtain ⟨rfl, rfl⟩ := hR
 replace hs : St _ _ [_] _ := hs
 refine O_a rfl ?_
 refine O_nil (T_kp [1, 2, 6] rfl ?_)
 refine T_seq (T_region rfl ?_)
 refine O_m rfl ?_
 refine O_y hs (Y_cmpT rfl rfl rfl (by decide) ?_)
 refine O_nil (T_kp [1, 2, 6, 14] rfl ?_)
 refine T_condT rfl (T_seq (T_region rfl ?_))
 refine O_m rfl ?_
 refine O_a rfl ?_
 refine O_a rfl ?_
 refine O_nil (T_kp [4, 5] rfl ?_)
 refine T_ret ?_
 refine Rt_fin (vs := [_, _]) Tryz.results19 rfl ⟨rfl, rfl, trivial⟩ ?_
 try dsimp only [tup]
 exact ⟨_, [], hs.done, rfl, rfl⟩

theorem par_slice {G : Ghost} {r : Value} {r0 : Except Er (List Ev)} (h : ParseR G r r0) : ∃ A c, Evs G (.slice A (outE r0).length c) (outE r0) ∧ r = .tuple #[.slice A (outE r0).length c, .int .i64 (outA r0 : Int), .int .i64 (outC r0)] := by
  obtain ⟨u, hu, rfl⟩ := h
  obtain ⟨A, c, rfl⟩ := LstR.slice hu
  exact ⟨A, c, hu, rfl⟩
theorem parse_is {G : Ghost} {s : List UInt8} {r0 : Except Er (List Ev)} (h : parseP s = r0) (hl : s.length ≤ 2000000) : FnOk Tryz.prog 14 [.string ⟨s.toArray⟩] G [] fun r G' H' => H' = [] ∧ ∃ A c, Evs G' (.slice A (outE r0).length c) (outE r0) ∧ r = .tuple #[.slice A (outE r0).length c, .int .i64 (outA r0 : Int), .int .i64 (outC r0)] :=
  (parse_ok hl).mono fun v G' H' _ hr => ⟨hr.1, par_slice (h ▸ hr.2)⟩
theorem rparse_is {G : Ghost} {s : List UInt8} {r0 : Except Er (List Ev)} (h : parseP s = r0) (hl : s.length ≤ 2000000) : FnOk Tryz.prog 15 [.string ⟨s.toArray⟩] G [] fun r G' H' => H' = [] ∧ ∃ A c, Evs G' (.slice A (outE r0).length c) (outE r0) ∧ r = .tuple #[.slice A (outE r0).length c, .int .i64 (outA r0 : Int), .int .i64 (outC r0)] :=
  (rpar_ok hl).mono fun v G' H' _ hr => ⟨hr.1, par_slice (h ▸ hr.2)⟩
theorem same_yes {G : Ghost} {u v : Value} {a b : List Ev} (hx : Evs G u a) (hy : Evs G v b) (hla : a.length ≤ 1000000000) (h : a = b) : FnOk Tryz.prog 16 [u, v] G [] fun r _ H' => H' = [] ∧ r = .bool true :=
  (same_ok hx hy hla).mono fun v G' H' _ hr => by
    obtain ⟨h1, t, rfl, h2⟩ := hr
    rw [h2.2 h]; exact ⟨h1, rfl⟩
def wantL : List Ev := [⟨9, 0, 0, []⟩, ⟨1, 2, 0, [10, 255]⟩, ⟨1, 0, 0, []⟩, ⟨5, 1, 3, []⟩]
theorem san1 : parseP [115, 121, 110, 99, 10, 115, 101, 110, 100, 32, 50, 32, 48, 97, 102, 102, 10, 115, 101, 110, 100, 32, 48, 32, 45, 10, 115, 116, 97, 114, 116, 32, 49, 32, 51, 10] = .ok wantL := by kernel_rfl
theorem san2 : parseP [] = .ok [] := by kernel_rfl
theorem san3 : fmtT wantL = [115, 121, 110, 99, 10, 115, 101, 110, 100, 32, 50, 32, 48, 97, 102, 102, 10, 115, 101, 110, 100, 32, 48, 32, 45, 10, 115, 116, 97, 114, 116, 32, 49, 32, 51, 10] := text_unique san1
theorem san4 : fmtT [⟨9, 1, 0, []⟩] = [] := by kernel_rfl
theorem san_71 : parseP [115, 121, 110, 99] = .error (21, 4) := by kernel_rfl
theorem san_74 : parseP [115, 116, 111, 112, 32, 48, 49, 10] = .error (20, 5) := by kernel_rfl
theorem san_77 : parseP [98, 97, 99, 107, 32, 32, 49, 10] = .error (20, 5) := by kernel_rfl
theorem san_80 : parseP [115, 97, 109, 112, 108, 101, 32, 49, 48, 52, 56, 53, 55, 55, 10] = .error (2, 7) := by kernel_rfl
theorem san_83 : parseP [115, 121, 110, 99, 10, 10] = .error (20, 5) := by kernel_rfl
theorem san_86 : parseP [108, 105, 101, 32, 49, 10] = .error (20, 5) := by kernel_rfl
theorem san_89 : parseP [98, 97, 99, 107, 32, 49, 32, 10] = .error (20, 6) := by kernel_rfl
theorem san_92 : parseP [115, 101, 110, 100, 32, 49, 32, 48, 65, 10] = .error (20, 7) := by kernel_rfl
theorem san_95 : parseP [115, 101, 110, 100, 32, 49, 32] = .error (21, 7) := by kernel_rfl
theorem san_98 : parseP [83, 121, 110, 99, 10] = .error (20, 0) := by kernel_rfl
theorem want_evs {G : Ghost} {v u : Value} (h : Bytes G u [10, 255]) (hs : Sl G v 4 4 [.int .i64 9, .int .i64 0, .int .i64 0, .slice none 0 0, .int .i64 1, .int .i64 2, .int .i64 0, u, .int .i64 1, .int .i64 0, .int .i64 0, .slice none 0 0, .int .i64 5, .int .i64 1, .int .i64 3, .slice none 0 0]) : Evs G v wantL :=
  evs_of (cs := [[.int .i64 9, .int .i64 0, .int .i64 0, .slice none 0 0], [.int .i64 1, .int .i64 2, .int .i64 0, u], [.int .i64 1, .int .i64 0, .int .i64 0, .slice none 0 0], [.int .i64 5, .int .i64 1, .int .i64 3, .slice none 0 0]]) hs rfl rfl
    ⟨⟨⟨_, rfl, Sl.nil _ _⟩, ⟨_, rfl, h⟩, ⟨_, rfl, Sl.nil _ _⟩, ⟨_, rfl, Sl.nil _ _⟩, trivial⟩, fun c hc => by
      simp only [List.mem_cons, List.not_mem_nil, or_false] at hc
      rcases hc with rfl | rfl | rfl | rfl <;> rfl⟩
theorem one_evs {G : Ghost} {v : Value} (hs : Sl G v 4 1 [.int .i64 9, .int .i64 1, .int .i64 0, .slice none 0 0]) : Evs G v [⟨9, 1, 0, []⟩] :=
  evs_of (cs := [[.int .i64 9, .int .i64 1, .int .i64 0, .slice none 0 0]]) hs rfl rfl
    ⟨⟨⟨_, rfl, Sl.nil _ _⟩, trivial⟩, fun c hc => by
      obtain rfl := List.mem_singleton.1 hc; rfl⟩
theorem want_hlen : ∀ k, (∀ i (hi : i < wantL.length), i < k → wrE wantL[i] = true) → (linesT (wantL.take k)).length ≤ 900000 := fun k _ => by
  have hw : ∀ e ∈ wantL, Wr e ∧ e.b.length ≤ 40 := by
    intro e he
    simp only [wantL, List.mem_cons, List.not_mem_nil, or_false] at he
    rcases he with rfl | rfl | rfl | rfl <;> exact ⟨(wr_iff _).1 (by decide), by decide⟩
  have h1 := linesT_len (B := 40) (wantL.take k) fun e he => hw e (List.mem_of_mem_take he)
  have h2 : (wantL.take k).length ≤ 4 := by rw [List.length_take]; exact Nat.min_le_right _ _
  omega
theorem one_hlen : ∀ k, (∀ i (hi : i < [(⟨9, 1, 0, []⟩ : Ev)].length), i < k → wrE ([(⟨9, 1, 0, []⟩ : Ev)])[i] = true) → (linesT ([(⟨9, 1, 0, []⟩ : Ev)].take k)).length ≤ 900000 := fun k h => by
  rcases Nat.eq_zero_or_pos k with rfl | hk
  · simp [linesT]
  · exact absurd (h 0 (by simp) hk) (by decide)


set_option maxHeartbeats 400000 in
set_option maxRecDepth 10000 in
theorem fails_ok {G : Ghost} {s : List UInt8} {q : Nat} {z : Int} (h : parseP s = .error (z, q)) (hl : s.length ≤ 2000000) :
  FnOk Tryz.prog 21 [.string ⟨s.toArray⟩, .int .i64 (q : Int), .int .i64 z] G [] fun r _ H' => H' = [] ∧ r = .bool true := by
 refine FnOk.of_T [(0, _), (1, _), (2, _)] Tryz.func21 rfl Tryz.ntmps21 (by simp) rfl fun w0 hs => ?_
 refine T_seq (T_region rfl ?_)
 refine O_a rfl ?_
 refine O_nil (T_kp [0, 1, 2] rfl ?_)
 refine T_seq (T_region rfl ?_)
 refine O_m rfl ?_
 refine O_s (S_call (H1 := []) hs rfl Tryz.func14 rfl (by kernel_rfl) (parse_is h hl) fun v1 G' H' _ hR hG12 hs => ?_)
 obtain ⟨rfl, A12, c12, hE12, rfl⟩ := hR
 replace hs : St _ _ [] _ := hs
 refine O_m rfl ?_
 refine O_y hs (Y_extract rfl rfl ?_)
 refine O_y hs (Y_extract rfl rfl ?_)
 refine O_y hs (Y_extract rfl rfl ?_)
 refine O_a rfl ?_
 refine O_a rfl ?_
 refine O_a rfl ?_
 refine O_nil (T_kp [1, 2, 7, 8, 9] rfl ?_)
 refine T_seq (T_region rfl ?_)
 refine O_m rfl ?_
 refine O_y hs (Y_len Tryz.underlying22 rfl ?_)
 refine O_y hs (Y_cmpT rfl rfl rfl (rfl) ?_)
 refine O_m rfl ?_
 refine O_yy 19 hs rfl rfl (Y_move rfl ?_)
 refine O_yy 19 hs rfl rfl (Y_move rfl ?_)
 refine O_yy 19 hs rfl rfl (Y_cmpT rfl rfl rfl (rfl) ?_)
 refine O_y hs (Y_pickT rfl rfl ?_)
 refine O_m rfl ?_
 refine O_yy 24 hs rfl rfl (Y_move rfl ?_)
 refine O_yy 24 hs rfl rfl (Y_move rfl ?_)
 refine O_yy 24 hs rfl rfl (Y_cmpT rfl rfl rfl (rfl) ?_)
 refine O_y hs (Y_pickT rfl rfl ?_)
 refine O_a rfl ?_
 refine O_nil (T_kp [6] rfl ?_)
 refine T_ret ?_
 refine Rt_fin (vs := [_]) Tryz.results21 rfl ⟨rfl, trivial⟩ ?_
 try dsimp only [tup]
 exact ⟨_, [], hs.done, rfl, rfl⟩

set_option maxHeartbeats 4000000 in
set_option maxRecDepth 10000 in
theorem sanity_ok {G : Ghost} (hT : Tab10 G) :
  FnOk Tryz.prog 11 [] G [] fun r _ H' => H' = [] ∧ r = .bool true := by
 refine FnOk.of_T [] Tryz.func11 rfl Tryz.ntmps11 (by simp) rfl fun w0 hs => ?_
 have hT0 := hT
 refine T_seq (T_region rfl ?_)
 refine O_a rfl ?_
 refine O_nil (T_kp [] rfl ?_)
 refine T_seq (T_region rfl ?_)
 refine O_s (S_call (H1 := []) hs rfl Tryz.func14 rfl (by kernel_rfl) (parse_is (s := [115, 121, 110, 99, 10, 115, 101, 110, 100, 32, 50, 32, 48, 97, 102, 102, 10, 115, 101, 110, 100, 32, 48, 32, 45, 10, 115, 116, 97, 114, 116, 32, 49, 32, 51, 10]) san1 (by decide)) fun v1 G' H' _ hR hG11 hs => ?_)
 obtain ⟨rfl, A11, c11, hE11, rfl⟩ := hR
 replace hs : St _ _ [] _ := hs
 replace hT := hT.mono hG11
 refine O_m rfl ?_
 refine O_y hs (Y_extract rfl rfl ?_)
 refine O_y hs (Y_extract rfl rfl ?_)
 refine O_y hs (Y_extract rfl rfl ?_)
 refine O_a rfl ?_
 refine O_a rfl ?_
 refine O_a rfl ?_
 refine O_nil (T_kp [1, 2, 3] rfl ?_)
 refine T_seq (T_region rfl ?_)
 refine O_s (S_call (H1 := []) hs rfl Tryz.func14 rfl (by kernel_rfl) (parse_is (s := []) san2 (by decide)) fun v2 G' H' _ hR hG16 hs => ?_)
 obtain ⟨rfl, A16, c16, hE16, rfl⟩ := hR
 replace hs : St _ _ [] _ := hs
 replace hT := hT.mono hG16
 replace hE11 := hE11.mono hG16
 refine O_m rfl ?_
 refine O_y hs (Y_extract rfl rfl ?_)
 refine O_y hs (Y_extract rfl rfl ?_)
 refine O_y hs (Y_extract rfl rfl ?_)
 refine O_a rfl ?_
 refine O_a rfl ?_
 refine O_a rfl ?_
 refine O_nil (T_kp [1, 2, 3, 4, 5, 6] rfl ?_)
 refine T_seq (T_region rfl ?_)
 refine O_y hs (Y_build Tryz.zeroValue36 rfl PL36 rfl (cs := [_, _, _, _]) rfl ?_)
 refine O_s (S_lit hs Tryz.underlying25 Tryz.sizeOf5 Tryz.zeroValue5 rfl rfl (by decide) (by decide) rfl (cs := [_, _]) rfl rfl fun v3 _ hs shv3 => ?_)
 obtain ⟨bv3, rfl⟩ := shv3
 obtain ⟨_, hG21, hl21, hs⟩ := hs.fixRow noM
 replace hT := hT.mono hG21
 replace hE11 := hE11.mono hG21
 refine O_y hs (Y_build Tryz.zeroValue36 rfl PL36 rfl (cs := [_, _, _, _]) rfl ?_)
 refine O_y hs (Y_build Tryz.zeroValue36 rfl PL36 rfl (cs := [_, _, _, _]) rfl ?_)
 refine O_y hs (Y_build Tryz.zeroValue36 rfl PL36 rfl (cs := [_, _, _, _]) rfl ?_)
 refine O_s (S_lit hs Tryz.underlying22 Tryz.sizeOf36 Tryz.zeroValue36 rfl rfl (by decide) (by decide) rfl (cs := [_, _, _, _, _, _, _, _, _, _, _, _, _, _, _, _]) rfl rfl fun v4 _ hs shv4 => ?_)
 obtain ⟨bv4, rfl⟩ := shv4
 obtain ⟨_, hG25, hl25, hs⟩ := hs.fixRow noM
 replace hT := hT.mono hG25
 replace hE11 := hE11.mono hG25
 replace hl21 := hl21.mono hG25
 refine O_a rfl ?_
 refine O_nil (T_kp [1, 2, 3, 4, 5, 6, 7] rfl ?_)
 refine T_seq (T_region rfl ?_)
 refine O_y hs (Y_build Tryz.zeroValue49 rfl PL49 rfl (cs := [_, _, _, _]) rfl ?_)
 refine O_s (S_call (H1 := []) hs rfl Tryz.func19 rfl (by kernel_rfl) (sval0_ok) fun v5 G' H' _ hR hG28 hs => ?_)
 obtain ⟨rfl, rfl⟩ := hR
 replace hs : St _ _ [] _ := hs
 replace hT := hT.mono hG28
 replace hE11 := hE11.mono hG28
 replace hl21 := hl21.mono hG28
 replace hl25 := hl25.mono hG28
 refine O_m rfl ?_
 refine O_y hs (Y_extract rfl rfl ?_)
 refine O_y hs (Y_extract rfl rfl ?_)
 refine O_a rfl ?_
 refine O_a rfl ?_
 refine O_nil (T_kp [1, 2, 3, 4, 5, 6, 7, 9] rfl ?_)
 refine T_seq (T_region rfl ?_)
 refine O_m rfl ?_
 refine O_y hs (Y_cmpT rfl rfl rfl (rfl) ?_)
 refine O_m rfl ?_
 refine O_yy 33 hs rfl rfl (Y_move rfl ?_)
 refine O_yy 33 hs rfl rfl (Y_cmpT rfl rfl rfl (rfl) ?_)
 refine O_y hs (Y_pickT rfl rfl ?_)
 refine O_m rfl ?_
 refine O_yy 37 hs rfl rfl (Y_move rfl ?_)
 refine O_yy 37 hs rfl rfl (Y_move rfl ?_)
 refine O_yes 37 rfl rfl (S_call (H1 := []) hs rfl Tryz.func16 rfl (by kernel_rfl) (same_yes hE11 (want_evs hl21 hl25) (by decide) rfl) fun v6 G' H' _ hR hG40 hs => ?_)
 obtain ⟨rfl, rfl⟩ := hR
 replace hs : St _ _ [] _ := hs
 replace hT := hT.mono hG40
 replace hE11 := hE11.mono hG40
 replace hl21 := hl21.mono hG40
 replace hl25 := hl25.mono hG40
 refine O_y hs (Y_pickT rfl rfl ?_)
 refine O_m rfl ?_
 refine O_yy 42 hs rfl rfl (Y_move rfl ?_)
 refine O_yy 42 hs rfl rfl (Y_len Tryz.underlying22 rfl ?_)
 refine O_yy 42 hs rfl rfl (Y_cmpT rfl rfl rfl (rfl) ?_)
 refine O_y hs (Y_pickT rfl rfl ?_)
 refine O_m rfl ?_
 refine O_yy 47 hs rfl rfl (Y_move rfl ?_)
 refine O_yy 47 hs rfl rfl (Y_cmpT rfl rfl rfl (rfl) ?_)
 refine O_y hs (Y_pickT rfl rfl ?_)
 refine O_m rfl ?_
 refine O_yy 51 hs rfl rfl (Y_move rfl ?_)
 refine O_yy 51 hs rfl rfl (Y_cmpT rfl rfl rfl (rfl) ?_)
 refine O_y hs (Y_pickT rfl rfl ?_)
 refine O_m rfl ?_
 refine O_yy 55 hs rfl rfl (Y_move rfl ?_)
 refine O_yy 55 hs rfl rfl (Y_cmpT rfl rfl rfl (rfl) ?_)
 refine O_y hs (Y_pickT rfl rfl ?_)
 refine O_m rfl ?_
 refine O_yy 59 hs rfl rfl (Y_move rfl ?_)
 refine O_yes 59 rfl rfl (S_call (H1 := []) hs rfl Tryz.func17 rfl (by kernel_rfl) (fmt_ok (want_evs hl21 hl25) hT (by decide) want_hlen (by decide)) fun v7 G' H' _ hR hG61 hs => ?_)
 obtain ⟨rfl, rfl⟩ := hR
 replace hs : St _ _ [] _ := hs
 replace hT := hT.mono hG61
 replace hE11 := hE11.mono hG61
 replace hl21 := hl21.mono hG61
 replace hl25 := hl25.mono hG61
 refine O_yy 59 hs rfl rfl (Y_strEq (b := true) rfl rfl (by rw [san3]; exact ⟨fun _ => rfl, fun _ => rfl⟩) ?_)
 refine O_y hs (Y_pickT rfl rfl ?_)
 refine O_m rfl ?_
 refine O_yy 64 hs rfl rfl (Y_build Tryz.zeroValue36 rfl PL36 rfl (cs := [_, _, _, _]) rfl ?_)
 refine O_yes 64 rfl rfl (S_lit hs Tryz.underlying22 Tryz.sizeOf36 Tryz.zeroValue36 rfl rfl (by decide) (by decide) rfl (cs := [_, _, _, _]) rfl rfl fun v8 _ hs shv8 => ?_)
 obtain ⟨bv8, rfl⟩ := shv8
 obtain ⟨_, hG66, hl66, hs⟩ := hs.fixRow noM
 replace hT := hT.mono hG66
 replace hE11 := hE11.mono hG66
 replace hl21 := hl21.mono hG66
 replace hl25 := hl25.mono hG66
 refine O_yes 64 rfl rfl (S_call (H1 := []) hs rfl Tryz.func17 rfl (by kernel_rfl) (fmt_ok (one_evs hl66) hT (by decide) one_hlen (by decide)) fun v9 G' H' _ hR hG67 hs => ?_)
 obtain ⟨rfl, rfl⟩ := hR
 replace hs : St _ _ [] _ := hs
 replace hT := hT.mono hG67
 replace hE11 := hE11.mono hG67
 replace hl21 := hl21.mono hG67
 replace hl25 := hl25.mono hG67
 replace hl66 := hl66.mono hG67
 refine O_yy 64 hs rfl rfl (Y_strEq (b := true) rfl rfl (by rw [san4]; exact ⟨fun _ => rfl, fun _ => rfl⟩) ?_)
 refine O_y hs (Y_pickT rfl rfl ?_)
 refine O_m rfl ?_
 refine O_yes 70 rfl rfl (S_call (H1 := []) hs rfl Tryz.func21 rfl (by kernel_rfl) (fails_ok (s := [115, 121, 110, 99]) (q := 4) san_71 (by decide)) fun v10 G' H' _ hR hG71 hs => ?_)
 obtain ⟨rfl, rfl⟩ := hR
 replace hs : St _ _ [] _ := hs
 replace hT := hT.mono hG71
 replace hE11 := hE11.mono hG71
 replace hl21 := hl21.mono hG71
 replace hl25 := hl25.mono hG71
 replace hl66 := hl66.mono hG71
 refine O_y hs (Y_pickT rfl rfl ?_)
 refine O_m rfl ?_
 refine O_yes 73 rfl rfl (S_call (H1 := []) hs rfl Tryz.func21 rfl (by kernel_rfl) (fails_ok (s := [115, 116, 111, 112, 32, 48, 49, 10]) (q := 5) san_74 (by decide)) fun v11 G' H' _ hR hG74 hs => ?_)
 obtain ⟨rfl, rfl⟩ := hR
 replace hs : St _ _ [] _ := hs
 replace hT := hT.mono hG74
 replace hE11 := hE11.mono hG74
 replace hl21 := hl21.mono hG74
 replace hl25 := hl25.mono hG74
 replace hl66 := hl66.mono hG74
 refine O_y hs (Y_pickT rfl rfl ?_)
 refine O_m rfl ?_
 refine O_yes 76 rfl rfl (S_call (H1 := []) hs rfl Tryz.func21 rfl (by kernel_rfl) (fails_ok (s := [98, 97, 99, 107, 32, 32, 49, 10]) (q := 5) san_77 (by decide)) fun v12 G' H' _ hR hG77 hs => ?_)
 obtain ⟨rfl, rfl⟩ := hR
 replace hs : St _ _ [] _ := hs
 replace hT := hT.mono hG77
 replace hE11 := hE11.mono hG77
 replace hl21 := hl21.mono hG77
 replace hl25 := hl25.mono hG77
 replace hl66 := hl66.mono hG77
 refine O_y hs (Y_pickT rfl rfl ?_)
 refine O_m rfl ?_
 refine O_yes 79 rfl rfl (S_call (H1 := []) hs rfl Tryz.func21 rfl (by kernel_rfl) (fails_ok (s := [115, 97, 109, 112, 108, 101, 32, 49, 48, 52, 56, 53, 55, 55, 10]) (q := 7) san_80 (by decide)) fun v13 G' H' _ hR hG80 hs => ?_)
 obtain ⟨rfl, rfl⟩ := hR
 replace hs : St _ _ [] _ := hs
 replace hT := hT.mono hG80
 replace hE11 := hE11.mono hG80
 replace hl21 := hl21.mono hG80
 replace hl25 := hl25.mono hG80
 replace hl66 := hl66.mono hG80
 refine O_y hs (Y_pickT rfl rfl ?_)
 refine O_m rfl ?_
 refine O_yes 82 rfl rfl (S_call (H1 := []) hs rfl Tryz.func21 rfl (by kernel_rfl) (fails_ok (s := [115, 121, 110, 99, 10, 10]) (q := 5) san_83 (by decide)) fun v14 G' H' _ hR hG83 hs => ?_)
 obtain ⟨rfl, rfl⟩ := hR
 replace hs : St _ _ [] _ := hs
 replace hT := hT.mono hG83
 replace hE11 := hE11.mono hG83
 replace hl21 := hl21.mono hG83
 replace hl25 := hl25.mono hG83
 replace hl66 := hl66.mono hG83
 refine O_y hs (Y_pickT rfl rfl ?_)
 refine O_m rfl ?_
 refine O_yes 85 rfl rfl (S_call (H1 := []) hs rfl Tryz.func21 rfl (by kernel_rfl) (fails_ok (s := [108, 105, 101, 32, 49, 10]) (q := 5) san_86 (by decide)) fun v15 G' H' _ hR hG86 hs => ?_)
 obtain ⟨rfl, rfl⟩ := hR
 replace hs : St _ _ [] _ := hs
 replace hT := hT.mono hG86
 replace hE11 := hE11.mono hG86
 replace hl21 := hl21.mono hG86
 replace hl25 := hl25.mono hG86
 replace hl66 := hl66.mono hG86
 refine O_y hs (Y_pickT rfl rfl ?_)
 refine O_m rfl ?_
 refine O_yes 88 rfl rfl (S_call (H1 := []) hs rfl Tryz.func21 rfl (by kernel_rfl) (fails_ok (s := [98, 97, 99, 107, 32, 49, 32, 10]) (q := 6) san_89 (by decide)) fun v16 G' H' _ hR hG89 hs => ?_)
 obtain ⟨rfl, rfl⟩ := hR
 replace hs : St _ _ [] _ := hs
 replace hT := hT.mono hG89
 replace hE11 := hE11.mono hG89
 replace hl21 := hl21.mono hG89
 replace hl25 := hl25.mono hG89
 replace hl66 := hl66.mono hG89
 refine O_y hs (Y_pickT rfl rfl ?_)
 refine O_m rfl ?_
 refine O_yes 91 rfl rfl (S_call (H1 := []) hs rfl Tryz.func21 rfl (by kernel_rfl) (fails_ok (s := [115, 101, 110, 100, 32, 49, 32, 48, 65, 10]) (q := 7) san_92 (by decide)) fun v17 G' H' _ hR hG92 hs => ?_)
 obtain ⟨rfl, rfl⟩ := hR
 replace hs : St _ _ [] _ := hs
 replace hT := hT.mono hG92
 replace hE11 := hE11.mono hG92
 replace hl21 := hl21.mono hG92
 replace hl25 := hl25.mono hG92
 replace hl66 := hl66.mono hG92
 refine O_y hs (Y_pickT rfl rfl ?_)
 refine O_m rfl ?_
 refine O_yes 94 rfl rfl (S_call (H1 := []) hs rfl Tryz.func21 rfl (by kernel_rfl) (fails_ok (s := [115, 101, 110, 100, 32, 49, 32]) (q := 7) san_95 (by decide)) fun v18 G' H' _ hR hG95 hs => ?_)
 obtain ⟨rfl, rfl⟩ := hR
 replace hs : St _ _ [] _ := hs
 replace hT := hT.mono hG95
 replace hE11 := hE11.mono hG95
 replace hl21 := hl21.mono hG95
 replace hl25 := hl25.mono hG95
 replace hl66 := hl66.mono hG95
 refine O_y hs (Y_pickT rfl rfl ?_)
 refine O_m rfl ?_
 refine O_yes 97 rfl rfl (S_call (H1 := []) hs rfl Tryz.func21 rfl (by kernel_rfl) (fails_ok (s := [83, 121, 110, 99, 10]) (q := 0) san_98 (by decide)) fun v19 G' H' _ hR hG98 hs => ?_)
 obtain ⟨rfl, rfl⟩ := hR
 replace hs : St _ _ [] _ := hs
 replace hT := hT.mono hG98
 replace hE11 := hE11.mono hG98
 replace hl21 := hl21.mono hG98
 replace hl25 := hl25.mono hG98
 replace hl66 := hl66.mono hG98
 refine O_y hs (Y_pickT rfl rfl ?_)
 refine O_a rfl ?_
 refine O_nil (T_kp [0] rfl ?_)
 refine T_ret ?_
 refine Rt_fin (vs := [_]) Tryz.results11 rfl ⟨rfl, trivial⟩ ?_
 try dsimp only [tup]
 exact ⟨_, [], hs.done, rfl, rfl⟩

end Go.Proofs.YtcnljflihhggiaaGreatDoor
