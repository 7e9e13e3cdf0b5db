import Derived.Test.YtkmgbcjfidpmgaaGreatDoorExWalks13
import Derived.Test.YtkmgbcjfidpmgaaGreatDoorMats
import Derived.Test.YtkmgbcjfidpmgaaGreatDoorProg
import Derived.Test.YtkmgbcjfidpmgaaGreatDoorSame
import Derived.Test.YtkmgbcjfidpmgaaGreatDoorExThin
import Derived.Test.YtkmgbcjfidpmgaaGreatDoorShelf
namespace Go.Proofs.YtkmgbcjfidpmgaaGreatDoor
open Go Go.Ex Go.RowKit
theorem TI75 : TI Tryz.prog 75 (.slice none 0 0) 1 24 := TI.of (by kernel_rfl)
theorem TI81 : TI Tryz.prog 81 (.slice none 0 0) 1 24 := TI.of (by kernel_rfl)

theorem gcell_0 {G : Ghost} {p : Addr} {u : Value} (h : gcell G (p.add 0) = some u) : gcell G p = some u := by
  have : p.add 0 = p := by
    obtain ⟨b, i, q⟩ := p
    unfold Addr.add; rw [if_pos rfl]
  rwa [this] at h


set_option maxHeartbeats 1000000 in
set_option maxRecDepth 10000 in
theorem runi_ok {G : Ghost} {va vc : Value} {n : Nat} {a c : BMat} (ha : Mat G va n a) (hc : Mat G vc n c) (hn : n ≤ 1000) :
  FnOk Tryz.prog 88 [va, vc, .int .i64 (n : Int)] G [] fun r G' H' => H' = [] ∧ Mat G' r n (unF a c) := by
 obtain ⟨Aa, ca, rfl⟩ := LstR.slice ha
 obtain ⟨Ac, cc, rfl⟩ := LstR.slice hc
 refine FnOk.of_T [(0, _), (1, _), (2, _)] Tryz.func88 rfl Tryz.ntmps88 (by simp) rfl fun w0 hs => ?_
 have ha0 := ha
 have hc0 := hc
 refine T_seq (T_region rfl ?_)
 refine O_a rfl ?_
 refine O_nil (T_kp [0, 1, 2] rfl ?_)
 refine T_seq (T_region rfl ?_)
 refine O_s (S_lit hs Tryz.underlying81 Tryz.sizeOf75 Tryz.zeroValue75 rfl rfl (by decide) (by decide) rfl (cs := []) rfl rfl fun v1 _ hs _ => ?_)
 refine O_a rfl ?_
 refine O_nil (T_kp [0, 1, 2, 7] rfl ?_)
 refine T_seq (T_seq (T_region rfl ?_))
 refine O_a rfl ?_
 refine O_nil (T_kp [0, 1, 2, 7, 8] rfl ?_)
 refine T_block (T_loop (fun m E w => ∃ (i : Nat) (us : List Value) (v1 : Value) (G' : Ghost), i ≤ n + 1 ∧ RowsV G' us (rowsL n (unF a c) i) ∧ m = n + 1 - i ∧ E = ⟨[], [(0, (.slice Aa (rowsL n a (n + 1)).length ca)), (1, (.slice Ac (rowsL n c (n + 1)).length cc)), (2, .int .i64 (n : Int)), (7, v1), (8, .int .i64 (i : Int))]⟩ ∧ St ⟨w0, G, feet []⟩ G' [.row 75 1 v1 us.length us] w) (L := [(0, _), (1, _), (2, _), (7, _), (8, _)]) ⟨rfl, rfl, rfl, rfl, rfl, trivial⟩ (⟨0, [], _, _, by omega, trivial, rfl, rfl, hs⟩) fun m E w hI => ?_)
 obtain ⟨i, us, v1, G', hi, hus, rfl, rfl, hs⟩ := hI
 have ha := ha0.mono hs.le
 have hc := hc0.mono hs.le
 have hul := All2.length hus
 rw [rowsL_len] at hul
 refine T_seq (T_seq (T_region rfl ?_))
 refine O_m rfl ?_
 refine O_m rfl ?_
 refine O_y hs (Y_cmpS rfl rfl rfl (fun h14 => ?_) (fun h14 => ?_))
 ·
  dsimp only [cmpP] at h14
  refine O_nil (T_kp [0, 1, 2, 7, 8, 14] rfl ?_)
  refine T_condT rfl (T_skip ?_)
  refine T_seq (T_block (T_seq (T_region rfl ?_)))
  refine O_m rfl ?_
  refine O_y hs (Y_add (c := ((n + 1 : Nat) : Int)) rfl rfl (by omega) (by omega) ?_)
  refine O_s (S_make (n := (n + 1)) (m := (n + 1)) hs Tryz.underlying75 TI4 rfl rfl rfl (by omega) (by omega) (by omega) fun b19 _ hs => ?_)
  refine O_a rfl ?_
  refine O_nil (T_kp [0, 1, 2, 7, 8, 9] rfl ?_)
  refine T_seq (T_seq (T_region rfl ?_))
  refine O_a rfl ?_
  refine O_nil (T_kp [0, 1, 2, 7, 8, 9, 10] rfl ?_)
  refine T_block (T_loop (fun m E w => ∃ (j : Nat) (G' : Ghost), j ≤ n + 1 ∧ RowsV G' us (rowsL n (unF a c) i) ∧ m = n + 1 - j ∧ E = ⟨[], [(0, (.slice Aa (rowsL n a (n + 1)).length ca)), (1, (.slice Ac (rowsL n c (n + 1)).length cc)), (2, .int .i64 (n : Int)), (7, v1), (8, .int .i64 (i : Int)), (9, .slice (some ⟨b19, 0, none⟩) (n + 1) (n + 1)), (10, .int .i64 (j : Int))]⟩ ∧ St ⟨w0, G, feet []⟩ G' [.row 4 1 (.slice (some ⟨b19, 0, none⟩) (n + 1) (n + 1)) (n + 1) ((rowL n (fun k => decide (k < j) && unF a c i k)).map boolV), .row 75 1 v1 us.length us] w) (L := [(0, _), (1, _), (2, _), (7, _), (8, _), (9, _), (10, _)]) ⟨rfl, rfl, rfl, rfl, rfl, rfl, rfl, trivial⟩ (⟨0, _, by omega, hus, rfl, rfl, by rw [← rowV_zero (fun k _ => by rw [show decide (k < 0) = false from rfl]; rfl)]; exact hs⟩) fun m E w hI => ?_)
  obtain ⟨j, G', hj, hus, rfl, rfl, hs⟩ := hI
  have ha := ha0.mono hs.le
  have hc := hc0.mono hs.le
  refine T_seq (T_seq (T_region rfl ?_))
  refine O_m rfl ?_
  refine O_m rfl ?_
  refine O_y hs (Y_cmpS rfl rfl rfl (fun h22 => ?_) (fun h22 => ?_))
  ·
   dsimp only [cmpP] at h22
   refine O_nil (T_kp [0, 1, 2, 7, 8, 9, 10, 22] rfl ?_)
   refine T_condT rfl (T_skip ?_)
   refine T_seq (T_block (T_region rfl ?_))
   refine O_m rfl ?_
   refine O_m rfl ?_
   refine O_m rfl ?_
   refine O_m rfl ?_
   refine O_y hs (Y_idxS ha i Tryz.underlying81 Tryz.sizeOf75 rfl rfl rfl (by rw [rowsL_len]; omega) fun p29 c29 hp29 hc29 hR29 => ?_)
   obtain ⟨u29, rfl, hb29⟩ := hR29
   rw [rowsL_get] at hb29
   refine O_y hs (Y_ldG Tryz.isAgg75 rfl (gcell_0 (hp29 0 _ rfl)) ?_)
   refine O_m rfl ?_
   refine O_y hs (Y_idx1 (j) Tryz.underlying75 Tryz.sizeOf4 hb29 rfl rfl rfl (rowV_at (by omega)) fun p32 hp32 => ?_)
   refine O_y hs (Y_ldG Tryz.isAgg4 rfl (hp32) ?_)
   cases h34 : a i j
   ·
    refine O_m rfl ?_
    refine O_yy 34 hs rfl rfl (Y_move rfl ?_)
    refine O_yy 34 hs rfl rfl (Y_move rfl ?_)
    refine O_yy 34 hs rfl rfl (Y_idxS hc i Tryz.underlying81 Tryz.sizeOf75 rfl rfl rfl (by rw [rowsL_len]; omega) fun p37 c37 hp37 hc37 hR37 => ?_)
    obtain ⟨u37, rfl, hb37⟩ := hR37
    rw [rowsL_get] at hb37
    refine O_yy 34 hs rfl rfl (Y_ldG Tryz.isAgg75 rfl (gcell_0 (hp37 0 _ rfl)) ?_)
    refine O_yy 34 hs rfl rfl (Y_move rfl ?_)
    refine O_yy 34 hs rfl rfl (Y_idx1 (j) Tryz.underlying75 Tryz.sizeOf4 hb37 rfl rfl rfl (rowV_at (by omega)) fun p40 hp40 => ?_)
    refine O_yy 34 hs rfl rfl (Y_ldG Tryz.isAgg4 rfl (hp40) ?_)
    refine O_y hs (Y_pickF rfl rfl ?_)
    refine O_y hs (Y_idxRow (j) Tryz.underlying75 Tryz.sizeOf4 rfl rfl rfl (by omega) ?_)
    refine O_n (S_stRow hs Tryz.sizeOf4 rfl rfl rfl (by omega) fun _ hs => ?_)
    refine O_nil (T_kp [0, 1, 2, 7, 8, 9, 10] rfl ?_)
    refine T_region rfl ?_
    refine O_m rfl ?_
    refine O_y hs (Y_add (c := ((j + 1 : Nat) : Int)) rfl rfl (by omega) (by omega) ?_)
    refine O_a rfl ?_
    have hs := hs.f1
    have hs := hs.f1
    refine O_nil ⟨_, ?_, [(0, _), (1, _), (2, _), (7, _), (8, _), (9, _), (10, _)], ⟨rfl, rfl, rfl, rfl, rfl, rfl, rfl, trivial⟩, ⟨j + 1, _, by omega, hus, rfl, rfl, by rw [← fl_step (x := c i j) (by unfold unF; rw [h34]; rfl)]; exact hs⟩⟩
    omega
   ·
    refine O_m rfl ?_
    refine O_no 34 rfl rfl ?_
    refine O_no 34 rfl rfl ?_
    refine O_no 34 rfl rfl ?_
    refine O_no 34 rfl rfl ?_
    refine O_no 34 rfl rfl ?_
    refine O_no 34 rfl rfl ?_
    refine O_no 34 rfl rfl ?_
    refine O_y hs (Y_pickT rfl rfl ?_)
    refine O_y hs (Y_idxRow (j) Tryz.underlying75 Tryz.sizeOf4 rfl rfl rfl (by omega) ?_)
    refine O_n (S_stRow hs Tryz.sizeOf4 rfl rfl rfl (by omega) fun _ hs => ?_)
    refine O_nil (T_kp [0, 1, 2, 7, 8, 9, 10] rfl ?_)
    refine T_region rfl ?_
    refine O_m rfl ?_
    refine O_y hs (Y_add (c := ((j + 1 : Nat) : Int)) rfl rfl (by omega) (by omega) ?_)
    refine O_a rfl ?_
    have hs := hs.f1
    have hs := hs.f1
    refine O_nil ⟨_, ?_, [(0, _), (1, _), (2, _), (7, _), (8, _), (9, _), (10, _)], ⟨rfl, rfl, rfl, rfl, rfl, rfl, rfl, trivial⟩, ⟨j + 1, _, by omega, hus, rfl, rfl, by rw [← fl_step (x := true) (by unfold unF; rw [h34]; rfl)]; exact hs⟩⟩
    omega
  ·
   dsimp only [cmpP] at h22
   refine O_nil (T_kp [0, 1, 2, 7, 8, 9, 10, 22] rfl ?_)
   refine T_condF rfl (T_exit ?_)
   obtain rfl : j = n + 1 := by omega
   rw [fl_end] at hs
   obtain ⟨_, hGz, hfz, hs⟩ := hs.fixRow noM
   replace ha := ha.mono hGz
   replace hc := hc.mono hGz
   replace hus := hus.mono hGz
   have hbz := Bools.ofRow hfz
   refine T_region rfl ?_
   refine O_m rfl ?_
   refine O_m rfl ?_
   refine O_s (S_lit hs Tryz.underlying81 Tryz.sizeOf75 Tryz.zeroValue75 rfl rfl (by decide) (by decide) rfl (cs := [_]) rfl rfl fun v2 _ hs _ => ?_)
   obtain ⟨_, hG46, hl46, hs⟩ := hs.fixRow noM
   replace ha := ha.mono hG46
   replace hc := hc.mono hG46
   replace hus := hus.mono hG46
   replace hbz := hbz.mono hG46
   refine O_s (S_append hs Tryz.underlying81 TI75 rfl (by decide) rfl rfl (hl46) (one1 rfl) (by omega) (by omega) fun v3 _ hs => ?_)
   refine O_a rfl ?_
   refine O_nil (T_kp [0, 1, 2, 7, 8] rfl ?_)
   refine T_region rfl ?_
   refine O_m rfl ?_
   refine O_y hs (Y_add (c := ((i + 1 : Nat) : Int)) rfl rfl (by omega) (by omega) ?_)
   refine O_a rfl ?_
   refine O_nil ⟨_, ?_, [(0, _), (1, _), (2, _), (7, _), (8, _)], ⟨rfl, rfl, rfl, rfl, rfl, trivial⟩, ⟨i + 1, us ++ [_], v3, _, by omega, hus.push hbz rfl, rfl, rfl, by rw [List.length_append]; exact hs⟩⟩
   omega
 ·
  dsimp only [cmpP] at h14
  refine O_nil (T_kp [0, 1, 2, 7, 8, 14] rfl ?_)
  refine T_condF rfl (T_exit ?_)
  refine T_seq (T_region rfl ?_)
  refine O_m rfl ?_
  refine O_a rfl ?_
  refine O_nil (T_kp [6] rfl ?_)
  refine T_ret ?_
  refine Rt_fin (vs := [_]) Tryz.results88 rfl ⟨rfl, trivial⟩ ?_
  try dsimp only [tup]
  obtain rfl : i = n + 1 := by omega
  obtain ⟨_, hGf, hf, hs⟩ := hs.fixRow noM
  exact ⟨_, [], hs.done, rfl, Mat.of hf rfl (hus.mono hGf)⟩

set_option maxHeartbeats 1000000 in
set_option maxRecDepth 10000 in
theorem rprod_ok {G : Ghost} {va vc : Value} {n : Nat} {a c : BMat} (ha : Mat G va n a) (hc : Mat G vc n c) (hn : n ≤ 1000) :
  FnOk Tryz.prog 89 [va, vc, .int .i64 (n : Int)] G [] fun r G' H' => H' = [] ∧ Mat G' r n (prF n a c) := by
 obtain ⟨Aa, ca, rfl⟩ := LstR.slice ha
 obtain ⟨Ac, cc, rfl⟩ := LstR.slice hc
 refine FnOk.of_T [(0, _), (1, _), (2, _)] Tryz.func89 rfl Tryz.ntmps89 (by simp) rfl fun w0 hs => ?_
 have ha0 := ha
 have hc0 := hc
 refine T_seq (T_region rfl ?_)
 refine O_a rfl ?_
 refine O_nil (T_kp [0, 1, 2] rfl ?_)
 refine T_seq (T_region rfl ?_)
 refine O_s (S_lit hs Tryz.underlying81 Tryz.sizeOf75 Tryz.zeroValue75 rfl rfl (by decide) (by decide) rfl (cs := []) rfl rfl fun v1 _ hs _ => ?_)
 refine O_a rfl ?_
 refine O_nil (T_kp [0, 1, 2, 7] rfl ?_)
 refine T_seq (T_seq (T_region rfl ?_))
 refine O_a rfl ?_
 refine O_nil (T_kp [0, 1, 2, 7, 8] rfl ?_)
 refine T_block (T_loop (fun m E w => ∃ (i : Nat) (us : List Value) (v1 : Value) (G' : Ghost), i ≤ n + 1 ∧ RowsV G' us (rowsL n (prF n a c) i) ∧ m = n + 1 - i ∧ E = ⟨[], [(0, (.slice Aa (rowsL n a (n + 1)).length ca)), (1, (.slice Ac (rowsL n c (n + 1)).length cc)), (2, .int .i64 (n : Int)), (7, v1), (8, .int .i64 (i : Int))]⟩ ∧ St ⟨w0, G, feet []⟩ G' [.row 75 1 v1 us.length us] w) (L := [(0, _), (1, _), (2, _), (7, _), (8, _)]) ⟨rfl, rfl, rfl, rfl, rfl, trivial⟩ (⟨0, [], _, _, by omega, trivial, rfl, rfl, hs⟩) fun m E w hI => ?_)
 obtain ⟨i, us, v1, G', hi, hus, rfl, rfl, hs⟩ := hI
 have ha := ha0.mono hs.le
 have hc := hc0.mono hs.le
 have hul := All2.length hus
 rw [rowsL_len] at hul
 refine T_seq (T_seq (T_region rfl ?_))
 refine O_m rfl ?_
 refine O_m rfl ?_
 refine O_y hs (Y_cmpS rfl rfl rfl (fun h15 => ?_) (fun h15 => ?_))
 ·
  dsimp only [cmpP] at h15
  refine O_nil (T_kp [0, 1, 2, 7, 8, 15] rfl ?_)
  refine T_condT rfl (T_skip ?_)
  refine T_seq (T_block (T_seq (T_region rfl ?_)))
  refine O_m rfl ?_
  refine O_y hs (Y_add (c := ((n + 1 : Nat) : Int)) rfl rfl (by omega) (by omega) ?_)
  refine O_s (S_make (n := (n + 1)) (m := (n + 1)) hs Tryz.underlying75 TI4 rfl rfl rfl (by omega) (by omega) (by omega) fun b20 _ hs => ?_)
  refine O_a rfl ?_
  refine O_nil (T_kp [0, 1, 2, 7, 8, 9] rfl ?_)
  refine T_seq (T_seq (T_region rfl ?_))
  refine O_m rfl ?_
  refine O_a rfl ?_
  refine O_nil (T_kp [0, 1, 2, 7, 8, 9, 10] rfl ?_)
  refine T_block (T_loop (fun m E w => ∃ (q : Nat) (G' : Ghost), i ≤ q ∧ q ≤ n + 1 ∧ RowsV G' us (rowsL n (prF n a c) i) ∧ m = n + 1 - q ∧ E = ⟨[], [(0, (.slice Aa (rowsL n a (n + 1)).length ca)), (1, (.slice Ac (rowsL n c (n + 1)).length cc)), (2, .int .i64 (n : Int)), (7, v1), (8, .int .i64 (i : Int)), (9, .slice (some ⟨b20, 0, none⟩) (n + 1) (n + 1)), (10, .int .i64 (q : Int))]⟩ ∧ St ⟨w0, G, feet []⟩ G' [.row 4 1 (.slice (some ⟨b20, 0, none⟩) (n + 1) (n + 1)) (n + 1) ((rowL n (fun k => accF a c i q k)).map boolV), .row 75 1 v1 us.length us] w) (L := [(0, _), (1, _), (2, _), (7, _), (8, _), (9, _), (10, _)]) ⟨rfl, rfl, rfl, rfl, rfl, rfl, rfl, trivial⟩ (⟨i, _, Nat.le_refl _, by omega, hus, rfl, rfl, by rw [← rowV_zero (fun k _ => acc_0 (Nat.le_refl _))]; exact hs⟩) fun m E w hI => ?_)
  obtain ⟨q, G', hiq, hq, hus, rfl, rfl, hs⟩ := hI
  have ha := ha0.mono hs.le
  have hc := hc0.mono hs.le
  refine T_seq (T_seq (T_region rfl ?_))
  refine O_m rfl ?_
  refine O_m rfl ?_
  refine O_y hs (Y_cmpS rfl rfl rfl (fun h24 => ?_) (fun h24 => ?_))
  ·
   dsimp only [cmpP] at h24
   refine O_nil (T_kp [0, 1, 2, 7, 8, 9, 10, 24] rfl ?_)
   refine T_condT rfl (T_skip ?_)
   refine T_seq (T_block (T_seq (T_region rfl ?_)))
   refine O_m rfl ?_
   refine O_a rfl ?_
   refine O_nil (T_kp [0, 1, 2, 7, 8, 9, 10, 11] rfl ?_)
   refine T_block (T_loop (fun m E w => ∃ (j : Nat) (G' : Ghost), q ≤ j ∧ j ≤ n + 1 ∧ RowsV G' us (rowsL n (prF n a c) i) ∧ m = n + 1 - j ∧ E = ⟨[], [(0, (.slice Aa (rowsL n a (n + 1)).length ca)), (1, (.slice Ac (rowsL n c (n + 1)).length cc)), (2, .int .i64 (n : Int)), (7, v1), (8, .int .i64 (i : Int)), (9, .slice (some ⟨b20, 0, none⟩) (n + 1) (n + 1)), (10, .int .i64 (q : Int)), (11, .int .i64 (j : Int))]⟩ ∧ St ⟨w0, G, feet []⟩ G' [.row 4 1 (.slice (some ⟨b20, 0, none⟩) (n + 1) (n + 1)) (n + 1) ((rowL n (fun k => psF a c i q j k)).map boolV), .row 75 1 v1 us.length us] w) (L := [(0, _), (1, _), (2, _), (7, _), (8, _), (9, _), (10, _), (11, _)]) ⟨rfl, rfl, rfl, rfl, rfl, rfl, rfl, rfl, trivial⟩ (⟨q, _, Nat.le_refl _, by omega, hus, rfl, rfl, by rw [show (fun k => psF a c i q q k) = fun k => accF a c i q k from funext fun k => ps_0]; exact hs⟩) fun m E w hI => ?_)
   obtain ⟨j, G', hqj, hj, hus, rfl, rfl, hs⟩ := hI
   have ha := ha0.mono hs.le
   have hc := hc0.mono hs.le
   refine T_seq (T_seq (T_region rfl ?_))
   refine O_m rfl ?_
   refine O_m rfl ?_
   refine O_y hs (Y_cmpS rfl rfl rfl (fun h30 => ?_) (fun h30 => ?_))
   ·
    dsimp only [cmpP] at h30
    refine O_nil (T_kp [0, 1, 2, 7, 8, 9, 10, 11, 30] rfl ?_)
    refine T_condT rfl (T_skip ?_)
    refine T_seq (T_block (T_region rfl ?_))
    refine O_m rfl ?_
    refine O_m rfl ?_
    refine O_m rfl ?_
    refine O_m rfl ?_
    refine O_y hs (Y_idxRow (j) Tryz.underlying75 Tryz.sizeOf4 rfl rfl rfl (by omega) ?_)
    refine O_y hs (Y_ldRow 0 rfl Tryz.isAgg4 rfl (rowV_at (by omega)) ?_)
    cases h39 : psF a c i q j j
    ·
     refine O_m rfl ?_
     refine O_yy 39 hs rfl rfl (Y_move rfl ?_)
     refine O_yy 39 hs rfl rfl (Y_move rfl ?_)
     refine O_yy 39 hs rfl rfl (Y_idxS ha i Tryz.underlying81 Tryz.sizeOf75 rfl rfl rfl (by rw [rowsL_len]; omega) fun p42 c42 hp42 hc42 hR42 => ?_)
     obtain ⟨u42, rfl, hb42⟩ := hR42
     rw [rowsL_get] at hb42
     refine O_yy 39 hs rfl rfl (Y_ldG Tryz.isAgg75 rfl (gcell_0 (hp42 0 _ rfl)) ?_)
     refine O_yy 39 hs rfl rfl (Y_move rfl ?_)
     refine O_yy 39 hs rfl rfl (Y_idx1 (q) Tryz.underlying75 Tryz.sizeOf4 hb42 rfl rfl rfl (rowV_at (by omega)) fun p45 hp45 => ?_)
     refine O_yy 39 hs rfl rfl (Y_ldG Tryz.isAgg4 rfl (hp45) ?_)
     cases h47 : a i q
     ·
      refine O_yy 39 hs rfl rfl (Y_move rfl ?_)
      refine O_no 47 rfl rfl ?_
      refine O_no 47 rfl rfl ?_
      refine O_no 47 rfl rfl ?_
      refine O_no 47 rfl rfl ?_
      refine O_no 47 rfl rfl ?_
      refine O_no 47 rfl rfl ?_
      refine O_no 47 rfl rfl ?_
      refine O_yy 39 hs rfl rfl (Y_pickF rfl rfl ?_)
      refine O_y hs (Y_pickF rfl rfl ?_)
      refine O_y hs (Y_idxRow (j) Tryz.underlying75 Tryz.sizeOf4 rfl rfl rfl (by omega) ?_)
      refine O_n (S_stRow hs Tryz.sizeOf4 rfl rfl rfl (by omega) fun _ hs => ?_)
      refine O_nil (T_kp [0, 1, 2, 7, 8, 9, 10, 11] rfl ?_)
      refine T_region rfl ?_
      refine O_m rfl ?_
      refine O_y hs (Y_add (c := ((j + 1 : Nat) : Int)) rfl rfl (by omega) (by omega) ?_)
      refine O_a rfl ?_
      have hs := hs.f1
      have hs := hs.f1
      refine O_nil ⟨_, ?_, [(0, _), (1, _), (2, _), (7, _), (8, _), (9, _), (10, _), (11, _)], ⟨rfl, rfl, rfl, rfl, rfl, rfl, rfl, rfl, trivial⟩, ⟨j + 1, _, by omega, by omega, hus, rfl, rfl, by rw [← rowV_set (n := n) (j := j) (f := fun k => psF a c i q j k) (g := fun k => psF a c i q (j + 1) k) (x := false) (by show psF a c i q (j + 1) j = _; rw [(ps_at hqj).2, ← (ps_at hqj).1, h39, h47]; rfl) (fun k _ hk => ps_ne hk)]; exact hs⟩⟩
      omega
     ·
      refine O_yy 39 hs rfl rfl (Y_move rfl ?_)
      refine O_yy 47 hs rfl rfl (Y_move rfl ?_)
      refine O_yy 47 hs rfl rfl (Y_move rfl ?_)
      refine O_yy 47 hs rfl rfl (Y_idxS hc q Tryz.underlying81 Tryz.sizeOf75 rfl rfl rfl (by rw [rowsL_len]; omega) fun p50 c50 hp50 hc50 hR50 => ?_)
      obtain ⟨u50, rfl, hb50⟩ := hR50
      rw [rowsL_get] at hb50
      refine O_yy 47 hs rfl rfl (Y_ldG Tryz.isAgg75 rfl (gcell_0 (hp50 0 _ rfl)) ?_)
      refine O_yy 47 hs rfl rfl (Y_move rfl ?_)
      refine O_yy 47 hs rfl rfl (Y_idx1 (j) Tryz.underlying75 Tryz.sizeOf4 hb50 rfl rfl rfl (rowV_at (by omega)) fun p53 hp53 => ?_)
      refine O_yy 47 hs rfl rfl (Y_ldG Tryz.isAgg4 rfl (hp53) ?_)
      refine O_yy 39 hs rfl rfl (Y_pickT rfl rfl ?_)
      refine O_y hs (Y_pickF rfl rfl ?_)
      refine O_y hs (Y_idxRow (j) Tryz.underlying75 Tryz.sizeOf4 rfl rfl rfl (by omega) ?_)
      refine O_n (S_stRow hs Tryz.sizeOf4 rfl rfl rfl (by omega) fun _ hs => ?_)
      refine O_nil (T_kp [0, 1, 2, 7, 8, 9, 10, 11] rfl ?_)
      refine T_region rfl ?_
      refine O_m rfl ?_
      refine O_y hs (Y_add (c := ((j + 1 : Nat) : Int)) rfl rfl (by omega) (by omega) ?_)
      refine O_a rfl ?_
      have hs := hs.f1
      have hs := hs.f1
      refine O_nil ⟨_, ?_, [(0, _), (1, _), (2, _), (7, _), (8, _), (9, _), (10, _), (11, _)], ⟨rfl, rfl, rfl, rfl, rfl, rfl, rfl, rfl, trivial⟩, ⟨j + 1, _, by omega, by omega, hus, rfl, rfl, by rw [← rowV_set (n := n) (j := j) (f := fun k => psF a c i q j k) (g := fun k => psF a c i q (j + 1) k) (x := c q j) (by show psF a c i q (j + 1) j = _; rw [(ps_at hqj).2, ← (ps_at hqj).1, h39, h47]; rfl) (fun k _ hk => ps_ne hk)]; exact hs⟩⟩
      omega
    ·
     refine O_m rfl ?_
     refine O_no 39 rfl rfl ?_
     refine O_no 39 rfl rfl ?_
     refine O_no 39 rfl rfl ?_
     refine O_no 39 rfl rfl ?_
     refine O_no 39 rfl rfl ?_
     refine O_no 39 rfl rfl ?_
     refine O_no 39 rfl rfl ?_
     refine O_no 39 rfl rfl ?_
     refine O_noU 47 rfl rfl ?_
     refine O_noU 47 rfl rfl ?_
     refine O_noU 47 rfl rfl ?_
     refine O_noU 47 rfl rfl ?_
     refine O_noU 47 rfl rfl ?_
     refine O_noU 47 rfl rfl ?_
     refine O_noU 47 rfl rfl ?_
     refine O_no 39 rfl rfl ?_
     refine O_y hs (Y_pickT rfl rfl ?_)
     refine O_y hs (Y_idxRow (j) Tryz.underlying75 Tryz.sizeOf4 rfl rfl rfl (by omega) ?_)
     refine O_n (S_stRow hs Tryz.sizeOf4 rfl rfl rfl (by omega) fun _ hs => ?_)
     refine O_nil (T_kp [0, 1, 2, 7, 8, 9, 10, 11] rfl ?_)
     refine T_region rfl ?_
     refine O_m rfl ?_
     refine O_y hs (Y_add (c := ((j + 1 : Nat) : Int)) rfl rfl (by omega) (by omega) ?_)
     refine O_a rfl ?_
     have hs := hs.f1
     have hs := hs.f1
     refine O_nil ⟨_, ?_, [(0, _), (1, _), (2, _), (7, _), (8, _), (9, _), (10, _), (11, _)], ⟨rfl, rfl, rfl, rfl, rfl, rfl, rfl, rfl, trivial⟩, ⟨j + 1, _, by omega, by omega, hus, rfl, rfl, by rw [← rowV_set (n := n) (j := j) (f := fun k => psF a c i q j k) (g := fun k => psF a c i q (j + 1) k) (x := true) (by show psF a c i q (j + 1) j = _; rw [(ps_at hqj).2, ← (ps_at hqj).1, h39]; rfl) (fun k _ hk => ps_ne hk)]; exact hs⟩⟩
     omega
   ·
    dsimp only [cmpP] at h30
    refine O_nil (T_kp [0, 1, 2, 7, 8, 9, 10, 11, 30] rfl ?_)
    refine T_condF rfl (T_exit ?_)
    obtain rfl : j = n + 1 := by omega
    rw [rowL_congr (f := fun k => psF a c i q (n + 1) k) (g := fun k => accF a c i (q + 1) k) (fun k hk => ps_end hiq hk)] at hs
    refine T_region rfl ?_
    refine O_m rfl ?_
    refine O_y hs (Y_add (c := ((q + 1 : Nat) : Int)) rfl rfl (by omega) (by omega) ?_)
    refine O_a rfl ?_
    have hs := hs.f1
    have hs := hs.f1
    refine O_nil ⟨_, ?_, [(0, _), (1, _), (2, _), (7, _), (8, _), (9, _), (10, _)], ⟨rfl, rfl, rfl, rfl, rfl, rfl, rfl, trivial⟩, ⟨q + 1, _, by omega, by omega, hus, rfl, rfl, hs⟩⟩
    omega
  ·
   dsimp only [cmpP] at h24
   refine O_nil (T_kp [0, 1, 2, 7, 8, 9, 10, 24] rfl ?_)
   refine T_condF rfl (T_exit ?_)
   obtain rfl : q = n + 1 := by omega
   obtain ⟨_, hGz, hfz, hs⟩ := hs.fixRow noM
   replace ha := ha.mono hGz
   replace hc := hc.mono hGz
   replace hus := hus.mono hGz
   have hbz := Bools.ofRow hfz
   refine T_region rfl ?_
   refine O_m rfl ?_
   refine O_m rfl ?_
   refine O_s (S_lit hs Tryz.underlying81 Tryz.sizeOf75 Tryz.zeroValue75 rfl rfl (by decide) (by decide) rfl (cs := [_]) rfl rfl fun v2 _ hs _ => ?_)
   obtain ⟨_, hG60, hl60, hs⟩ := hs.fixRow noM
   replace ha := ha.mono hG60
   replace hc := hc.mono hG60
   replace hus := hus.mono hG60
   replace hbz := hbz.mono hG60
   refine O_s (S_append hs Tryz.underlying81 TI75 rfl (by decide) rfl rfl (hl60) (one1 rfl) (by omega) (by omega) fun v3 _ hs => ?_)
   refine O_a rfl ?_
   refine O_nil (T_kp [0, 1, 2, 7, 8] rfl ?_)
   refine T_region rfl ?_
   refine O_m rfl ?_
   refine O_y hs (Y_add (c := ((i + 1 : Nat) : Int)) rfl rfl (by omega) (by omega) ?_)
   refine O_a rfl ?_
   refine O_nil ⟨_, ?_, [(0, _), (1, _), (2, _), (7, _), (8, _)], ⟨rfl, rfl, rfl, rfl, rfl, trivial⟩, ⟨i + 1, us ++ [_], v3, _, by omega, hus.push hbz rfl, rfl, rfl, by rw [List.length_append]; exact hs⟩⟩
   omega
 ·
  dsimp only [cmpP] at h15
  refine O_nil (T_kp [0, 1, 2, 7, 8, 15] rfl ?_)
  refine T_condF rfl (T_exit ?_)
  refine T_seq (T_region rfl ?_)
  refine O_m rfl ?_
  refine O_a rfl ?_
  refine O_nil (T_kp [6] rfl ?_)
  refine T_ret ?_
  refine Rt_fin (vs := [_]) Tryz.results89 rfl ⟨rfl, trivial⟩ ?_
  try dsimp only [tup]
  obtain rfl : i = n + 1 := by omega
  obtain ⟨_, hGf, hf, hs⟩ := hs.fixRow noM
  exact ⟨_, [], hs.done, rfl, Mat.of hf rfl (hus.mono hGf)⟩

set_option maxHeartbeats 2000000 in
set_option maxRecDepth 10000 in
theorem rrep_ok {G : Ghost} {va : Value} {n mn : Nat} {a : BMat} {kd ll rr mx : Int} {c0 c1 c2 c3 : Nat} (ha : Mat G va n a) (hn : n ≤ 1000) (h2 : mn ≤ 16) (h3 : -1 ≤ mx) (h4 : mx ≤ 16) :
  FnOk Tryz.prog 68 [.agg #[.int .i64 kd, u64V c0, u64V c1, u64V c2, u64V c3, .int .i64 ll, .int .i64 rr, .int .i64 (mn : Int), .int .i64 mx], va, .int .i64 (n : Int)] G [] fun r G' H' => H' = [] ∧ Mat G' r n (repF n a mn (mostF n (mn : Int) mx)) := by
 obtain ⟨Aa, ca, rfl⟩ := LstR.slice ha
 have hmb : mostF n (mn : Int) mx ≤ mn + n + 17 := by unfold mostF; split <;> omega
 refine FnOk.of_T [(0, _), (1, _), (2, _)] Tryz.func68 rfl Tryz.ntmps68 (by simp) rfl fun w0 hs => ?_
 have ha0 := ha
 refine T_seq (T_region rfl ?_)
 refine O_s (S_box hs rfl (cs := [_, _, _, _, _, _, _, _, _]) rfl fun b3 _ hs => ?_)
 refine O_a rfl ?_
 refine O_nil (T_kp [1, 2, 3] rfl ?_)
 refine T_seq (T_region rfl ?_)
 refine O_s (S_lit hs Tryz.underlying81 Tryz.sizeOf75 Tryz.zeroValue75 rfl rfl (by decide) (by decide) rfl (cs := []) rfl rfl fun v1 _ hs _ => ?_)
 refine O_a rfl ?_
 refine O_nil (T_kp [1, 2, 3, 7] rfl ?_)
 refine T_seq (T_region rfl ?_)
 refine O_s (S_lit hs Tryz.underlying81 Tryz.sizeOf75 Tryz.zeroValue75 rfl rfl (by decide) (by decide) rfl (cs := []) rfl rfl fun v2 _ hs _ => ?_)
 refine O_a rfl ?_
 refine O_nil (T_kp [1, 2, 3, 7, 8] rfl ?_)
 refine T_seq (T_seq (T_region rfl ?_))
 refine O_a rfl ?_
 refine O_nil (T_kp [1, 2, 3, 7, 8, 9] rfl ?_)
 refine T_block (T_loop (fun m E w => ∃ (i : Nat) (us ws : List Value) (v1 v2 : Value) (G' : Ghost), i ≤ n + 1 ∧ RowsV G' us (rowsL n oneM i) ∧ RowsV G' ws (rowsL n zeM i) ∧ m = n + 1 - i ∧ E = ⟨[], [(1, (.slice Aa (rowsL n a (n + 1)).length ca)), (2, .int .i64 (n : Int)), (3, .pointer (some ⟨b3, 0, none⟩)), (7, v1), (8, v2), (9, .int .i64 (i : Int))]⟩ ∧ St ⟨w0, G, feet []⟩ G' [.row 75 1 v2 ws.length ws, .row 75 1 v1 us.length us, .blk b3 42 [.int .i64 kd, u64V c0, u64V c1, u64V c2, u64V c3, .int .i64 ll, .int .i64 rr, .int .i64 (mn : Int), .int .i64 mx]] w) (L := [(1, _), (2, _), (3, _), (7, _), (8, _), (9, _)]) ⟨rfl, rfl, rfl, rfl, rfl, rfl, trivial⟩ (⟨0, [], [], _, _, _, by omega, trivial, trivial, rfl, rfl, hs⟩) fun m E w hI => ?_)
 obtain ⟨i, us, ws, v1, v2, G', hi, hus, hws, rfl, rfl, hs⟩ := hI
 have ha := ha0.mono hs.le
 have hul := All2.length hus
 rw [rowsL_len] at hul
 have hwl := All2.length hws
 rw [rowsL_len] at hwl
 refine T_seq (T_seq (T_region rfl ?_))
 refine O_m rfl ?_
 refine O_m rfl ?_
 refine O_y hs (Y_cmpS rfl rfl rfl (fun h18 => ?_) (fun h18 => ?_))
 ·
  dsimp only [cmpP] at h18
  refine O_nil (T_kp [1, 2, 3, 7, 8, 9, 18] rfl ?_)
  refine T_condT rfl (T_skip ?_)
  refine T_seq (T_block (T_seq (T_region rfl ?_)))
  refine O_m rfl ?_
  refine O_y hs (Y_add (c := ((n + 1 : Nat) : Int)) rfl rfl (by omega) (by omega) ?_)
  refine O_s (S_make (n := (n + 1)) (m := (n + 1)) hs Tryz.underlying75 TI4 rfl rfl rfl (by omega) (by omega) (by omega) fun b23 _ hs => ?_)
  refine O_a rfl ?_
  refine O_nil (T_kp [1, 2, 3, 7, 8, 9, 10] rfl ?_)
  refine T_seq (T_region rfl ?_)
  refine O_m rfl ?_
  refine O_m rfl ?_
  refine O_y hs (Y_idxRow (i) Tryz.underlying75 Tryz.sizeOf4 rfl rfl rfl (by omega) ?_)
  refine O_n (S_stRow hs Tryz.sizeOf4 rfl rfl rfl (by omega) fun _ hs => ?_)
  refine O_nil (T_kp [1, 2, 3, 7, 8, 9, 10] rfl ?_)
  rw [oneM_row] at hs
  obtain ⟨_, hGz, hfz, hs⟩ := hs.fixRow noM
  replace ha := ha.mono hGz
  replace hus := hus.mono hGz
  replace hws := hws.mono hGz
  have hbz := Bools.ofRow hfz
  refine T_seq (T_region rfl ?_)
  refine O_m rfl ?_
  refine O_m rfl ?_
  refine O_s (S_lit hs Tryz.underlying81 Tryz.sizeOf75 Tryz.zeroValue75 rfl rfl (by decide) (by decide) rfl (cs := [_]) rfl rfl fun v3 _ hs _ => ?_)
  obtain ⟨_, hG29, hl29, hs⟩ := hs.fixRow noM
  replace ha := ha.mono hG29
  replace hus := hus.mono hG29
  replace hws := hws.mono hG29
  replace hbz := hbz.mono hG29
  have hs := hs.f1
  refine O_s (S_append hs Tryz.underlying81 TI75 rfl (by decide) rfl rfl (hl29) (one1 rfl) (by omega) (by omega) fun v4 _ hs => ?_)
  refine O_a rfl ?_
  refine O_nil (T_kp [1, 2, 3, 7, 8, 9] rfl ?_)
  refine T_region rfl ?_
  refine O_m rfl ?_
  refine O_m rfl ?_
  refine O_y hs (Y_add (c := ((n + 1 : Nat) : Int)) rfl rfl (by omega) (by omega) ?_)
  refine O_s (S_make (n := (n + 1)) (m := (n + 1)) hs Tryz.underlying75 TI4 rfl rfl rfl (by omega) (by omega) (by omega) fun b34 _ hs => ?_)
  refine O_s (S_lit hs Tryz.underlying81 Tryz.sizeOf75 Tryz.zeroValue75 rfl rfl (by decide) (by decide) rfl (cs := [_]) rfl rfl fun v5 _ hs _ => ?_)
  obtain ⟨_, hG35, hl35, hs⟩ := hs.fixRow noM
  replace ha := ha.mono hG35
  replace hus := hus.mono hG35
  replace hws := hws.mono hG35
  replace hbz := hbz.mono hG35
  have hs := hs.f2
  refine O_s (S_append hs Tryz.underlying81 TI75 rfl (by decide) rfl rfl (hl35) (one1 rfl) (by omega) (by omega) fun v6 _ hs => ?_)
  refine O_a rfl ?_
  refine O_nil (T_kp [1, 2, 3, 7, 8, 9] rfl ?_)
  refine T_region rfl ?_
  refine O_m rfl ?_
  refine O_y hs (Y_add (c := ((i + 1 : Nat) : Int)) rfl rfl (by omega) (by omega) ?_)
  refine O_a rfl ?_
  have hs := hs.f1
  rw [zeM_row (i := i)] at hs
  obtain ⟨_, hGz, hfy, hs⟩ := hs.fixRow noM
  replace ha := ha.mono hGz
  replace hus := hus.mono hGz
  replace hws := hws.mono hGz
  replace hbz := hbz.mono hGz
  have hby := Bools.ofRow hfy
  have hs := hs.f2
  have hs := hs.f2
  have hs := hs.f2
  refine O_nil ⟨_, ?_, [(1, _), (2, _), (3, _), (7, _), (8, _), (9, _)], ⟨rfl, rfl, rfl, rfl, rfl, rfl, trivial⟩, ⟨i + 1, us ++ [_], ws ++ [_], v4, v6, _, by omega, hus.push hbz rfl, hws.push hby rfl, rfl, rfl, by rw [List.length_append, List.length_append]; exact hs⟩⟩
  omega
 ·
  dsimp only [cmpP] at h18
  refine O_nil (T_kp [1, 2, 3, 7, 8, 9, 18] rfl ?_)
  refine T_condF rfl (T_exit ?_)
  obtain rfl : i = n + 1 := by omega
  have hs := hs.f1
  obtain ⟨_, hGz, hfp, hs⟩ := hs.fixRow noM
  replace ha := ha.mono hGz
  replace hus := hus.mono hGz
  replace hws := hws.mono hGz
  have hpw := Mat.of hfp rfl hus
  obtain ⟨_, hGz, hfo, hs⟩ := hs.fixRow noM
  replace ha := ha.mono hGz
  replace hus := hus.mono hGz
  replace hws := hws.mono hGz
  replace hpw := hpw.mono hGz
  have hou := Mat.of hfo rfl hws
  refine T_seq (T_region rfl ?_)
  refine O_y hs (Y_fieldAddr FO42_5 rfl (m := 8) rfl ?_)
  refine O_y hs (Y_ld 0 Tryz.isAgg3 rfl rfl rfl ?_)
  refine O_a rfl ?_
  refine O_nil (T_kp [1, 2, 3, 7, 8, 11] rfl ?_)
  refine T_seq (T_seq (T_region rfl ?_))
  refine O_m rfl ?_
  refine O_y hs (Y_cmpS rfl rfl rfl (fun h40 => ?_) (fun h40 => ?_))
  ·
   dsimp only [cmpP] at h40
   refine O_nil (T_kp [1, 2, 3, 7, 8, 11, 40] rfl ?_)
   refine T_condT rfl (T_region rfl ?_)
   refine O_y hs (Y_fieldAddr FO42_4 rfl (m := 7) rfl ?_)
   refine O_y hs (Y_ld 0 Tryz.isAgg3 rfl rfl rfl ?_)
   refine O_m rfl ?_
   refine O_y hs (Y_add (c := ((mn + n : Nat) : Int)) rfl rfl (by omega) (by omega) ?_)
   refine O_y hs (Y_add (c := ((mostF n (mn : Int) mx : Nat) : Int)) rfl rfl (by unfold mostF; rw [if_pos h40]; omega) (by unfold mostF; rw [if_pos h40]; omega) ?_)
   refine O_a rfl ?_
   refine O_nil (T_kp [1, 2, 3, 7, 8, 11] rfl ?_)
   refine T_seq (T_region rfl ?_)
   refine O_m rfl ?_
   refine O_a rfl ?_
   refine O_nil (T_kp [1, 2, 3, 7, 11, 12] rfl ?_)
   refine T_seq (T_seq (T_region rfl ?_))
   refine O_a rfl ?_
   refine O_nil (T_kp [1, 2, 3, 7, 11, 12, 13] rfl ?_)
   refine T_block (T_loop (fun m E w => ∃ (k : Nat) (v7 v12 : Value) (G' : Ghost), (k : Int) ≤ ((mostF n (mn : Int) mx : Nat) : Int) + 1 ∧ Mat G' v7 n (pwF n a k) ∧ Mat G' v12 n (outF n a mn k) ∧ m = (((mostF n (mn : Int) mx : Nat) : Int) + 1 - k).toNat ∧ E = ⟨[], [(1, (.slice Aa (rowsL n a (n + 1)).length ca)), (2, .int .i64 (n : Int)), (3, .pointer (some ⟨b3, 0, none⟩)), (7, v7), (11, .int .i64 (((mostF n (mn : Int) mx : Nat) : Int))), (12, v12), (13, .int .i64 (k : Int))]⟩ ∧ St ⟨w0, G, feet []⟩ G' [.blk b3 42 [.int .i64 kd, u64V c0, u64V c1, u64V c2, u64V c3, .int .i64 ll, .int .i64 rr, .int .i64 (mn : Int), .int .i64 mx]] w) (L := [(1, _), (2, _), (3, _), (7, _), (11, _), (12, _), (13, _)]) ⟨rfl, rfl, rfl, rfl, rfl, rfl, rfl, trivial⟩ (⟨0, _, _, _, by omega, hpw, hou, rfl, rfl, hs⟩) fun m E w hI => ?_)
   obtain ⟨k, v7, v12, G', hk, hpw, hou, rfl, rfl, hs⟩ := hI
   have ha := ha0.mono hs.le
   refine T_seq (T_seq (T_region rfl ?_))
   refine O_m rfl ?_
   refine O_m rfl ?_
   refine O_y hs (Y_cmpS rfl rfl rfl (fun h49 => ?_) (fun h49 => ?_))
   ·
    dsimp only [cmpP] at h49
    refine O_nil (T_kp [1, 2, 3, 7, 11, 12, 13, 49] rfl ?_)
    refine T_condT rfl (T_skip ?_)
    refine T_seq (T_block (T_seq (T_seq (T_region rfl ?_))))
    refine O_m rfl ?_
    refine O_y hs (Y_fieldAddr FO42_4 rfl (m := 7) rfl ?_)
    refine O_y hs (Y_ld 0 Tryz.isAgg3 rfl rfl rfl ?_)
    refine O_y hs (Y_cmpS rfl rfl rfl (fun h55 => ?_) (fun h55 => ?_))
    ·
     dsimp only [cmpP] at h55
     refine O_nil (T_kp [1, 2, 3, 7, 11, 12, 13, 55] rfl ?_)
     refine T_condT rfl (T_region rfl ?_)
     refine O_m rfl ?_
     refine O_m rfl ?_
     refine O_m rfl ?_
     refine O_s (S_call (H1 := []) hs rfl Tryz.func88 rfl (by kernel_rfl) (runi_ok hou hpw (by omega)) fun v7 G' H' _ hR hG59 hs => ?_)
     obtain ⟨rfl, hou2⟩ := hR
     replace hs : St _ _ [_] _ := hs
     replace ha := ha.mono hG59
     replace hpw := hpw.mono hG59
     replace hou := hou.mono hG59
     refine O_a rfl ?_
     refine O_nil (T_kp [1, 2, 3, 7, 11, 12, 13] rfl ?_)
     refine T_region rfl ?_
     refine O_m rfl ?_
     refine O_m rfl ?_
     refine O_m rfl ?_
     refine O_s (S_call (H1 := []) hs rfl Tryz.func89 rfl (by kernel_rfl) (rprod_ok hpw ha (by omega)) fun v8 G' H' _ hR hG63 hs => ?_)
     obtain ⟨rfl, hpw2⟩ := hR
     replace hs : St _ _ [_] _ := hs
     replace ha := ha.mono hG63
     replace hpw := hpw.mono hG63
     replace hou := hou.mono hG63
     replace hou2 := hou2.mono hG63
     refine O_a rfl ?_
     refine O_nil (T_kp [1, 2, 3, 7, 11, 12, 13] rfl ?_)
     refine T_region rfl ?_
     refine O_m rfl ?_
     refine O_y hs (Y_add (c := ((k + 1 : Nat) : Int)) rfl rfl (by omega) (by omega) ?_)
     refine O_a rfl ?_
     refine O_nil ⟨_, ?_, [(1, _), (2, _), (3, _), (7, _), (11, _), (12, _), (13, _)], ⟨rfl, rfl, rfl, rfl, rfl, rfl, rfl, trivial⟩, ⟨k + 1, _, _, _, by omega, hpw2, by show Mat _ _ _ (if mn ≤ k then _ else _); rw [if_pos (by omega)]; exact hou2, rfl, rfl, hs⟩⟩
     omega
    ·
     dsimp only [cmpP] at h55
     refine O_nil (T_kp [1, 2, 3, 7, 11, 12, 13, 55] rfl ?_)
     refine T_condF rfl (T_skip ?_)
     refine T_region rfl ?_
     refine O_m rfl ?_
     refine O_m rfl ?_
     refine O_m rfl ?_
     refine O_s (S_call (H1 := []) hs rfl Tryz.func89 rfl (by kernel_rfl) (rprod_ok hpw ha (by omega)) fun v9 G' H' _ hR hG63 hs => ?_)
     obtain ⟨rfl, hpw2⟩ := hR
     replace hs : St _ _ [_] _ := hs
     replace ha := ha.mono hG63
     replace hpw := hpw.mono hG63
     replace hou := hou.mono hG63
     refine O_a rfl ?_
     refine O_nil (T_kp [1, 2, 3, 7, 11, 12, 13] rfl ?_)
     refine T_region rfl ?_
     refine O_m rfl ?_
     refine O_y hs (Y_add (c := ((k + 1 : Nat) : Int)) rfl rfl (by omega) (by omega) ?_)
     refine O_a rfl ?_
     refine O_nil ⟨_, ?_, [(1, _), (2, _), (3, _), (7, _), (11, _), (12, _), (13, _)], ⟨rfl, rfl, rfl, rfl, rfl, rfl, rfl, trivial⟩, ⟨k + 1, _, _, _, by omega, hpw2, by show Mat _ _ _ (if mn ≤ k then _ else _); rw [if_neg (by omega)]; exact hou, rfl, rfl, hs⟩⟩
     omega
   ·
    dsimp only [cmpP] at h49
    refine O_nil (T_kp [1, 2, 3, 7, 11, 12, 13, 49] rfl ?_)
    refine T_condF rfl (T_exit ?_)
    refine T_seq (T_region rfl ?_)
    refine O_m rfl ?_
    refine O_a rfl ?_
    refine O_nil (T_kp [6] rfl ?_)
    refine T_ret ?_
    refine Rt_fin (vs := [_]) Tryz.results68 rfl ⟨rfl, trivial⟩ ?_
    try dsimp only [tup]
    obtain rfl : k = mostF n (mn : Int) mx + 1 := by omega
    exact ⟨_, [], hs.done, rfl, hou⟩
  ·
   dsimp only [cmpP] at h40
   refine O_nil (T_kp [1, 2, 3, 7, 8, 11, 40] rfl ?_)
   refine T_condF rfl (T_skip ?_)
   have hmo : ((mostF n (mn : Int) mx : Nat) : Int) = mx := by unfold mostF; rw [if_neg (by omega)]; omega
   refine T_seq (T_region rfl ?_)
   refine O_m rfl ?_
   refine O_a rfl ?_
   refine O_nil (T_kp [1, 2, 3, 7, 11, 12] rfl ?_)
   refine T_seq (T_seq (T_region rfl ?_))
   refine O_a rfl ?_
   refine O_nil (T_kp [1, 2, 3, 7, 11, 12, 13] rfl ?_)
   refine T_block (T_loop (fun m E w => ∃ (k : Nat) (v7 v12 : Value) (G' : Ghost), (k : Int) ≤ mx + 1 ∧ Mat G' v7 n (pwF n a k) ∧ Mat G' v12 n (outF n a mn k) ∧ m = (mx + 1 - k).toNat ∧ E = ⟨[], [(1, (.slice Aa (rowsL n a (n + 1)).length ca)), (2, .int .i64 (n : Int)), (3, .pointer (some ⟨b3, 0, none⟩)), (7, v7), (11, .int .i64 mx), (12, v12), (13, .int .i64 (k : Int))]⟩ ∧ St ⟨w0, G, feet []⟩ G' [.blk b3 42 [.int .i64 kd, u64V c0, u64V c1, u64V c2, u64V c3, .int .i64 ll, .int .i64 rr, .int .i64 (mn : Int), .int .i64 mx]] w) (L := [(1, _), (2, _), (3, _), (7, _), (11, _), (12, _), (13, _)]) ⟨rfl, rfl, rfl, rfl, rfl, rfl, rfl, trivial⟩ (⟨0, _, _, _, by omega, hpw, hou, rfl, rfl, hs⟩) fun m E w hI => ?_)
   obtain ⟨k, v7, v12, G', hk, hpw, hou, rfl, rfl, hs⟩ := hI
   have ha := ha0.mono hs.le
   refine T_seq (T_seq (T_region rfl ?_))
   refine O_m rfl ?_
   refine O_m rfl ?_
   refine O_y hs (Y_cmpS rfl rfl rfl (fun h49 => ?_) (fun h49 => ?_))
   ·
    dsimp only [cmpP] at h49
    refine O_nil (T_kp [1, 2, 3, 7, 11, 12, 13, 49] rfl ?_)
    refine T_condT rfl (T_skip ?_)
    refine T_seq (T_block (T_seq (T_seq (T_region rfl ?_))))
    refine O_m rfl ?_
    refine O_y hs (Y_fieldAddr FO42_4 rfl (m := 7) rfl ?_)
    refine O_y hs (Y_ld 0 Tryz.isAgg3 rfl rfl rfl ?_)
    refine O_y hs (Y_cmpS rfl rfl rfl (fun h55 => ?_) (fun h55 => ?_))
    ·
     dsimp only [cmpP] at h55
     refine O_nil (T_kp [1, 2, 3, 7, 11, 12, 13, 55] rfl ?_)
     refine T_condT rfl (T_region rfl ?_)
     refine O_m rfl ?_
     refine O_m rfl ?_
     refine O_m rfl ?_
     refine O_s (S_call (H1 := []) hs rfl Tryz.func88 rfl (by kernel_rfl) (runi_ok hou hpw (by omega)) fun v10 G' H' _ hR hG59 hs => ?_)
     obtain ⟨rfl, hou2⟩ := hR
     replace hs : St _ _ [_] _ := hs
     replace ha := ha.mono hG59
     replace hpw := hpw.mono hG59
     replace hou := hou.mono hG59
     refine O_a rfl ?_
     refine O_nil (T_kp [1, 2, 3, 7, 11, 12, 13] rfl ?_)
     refine T_region rfl ?_
     refine O_m rfl ?_
     refine O_m rfl ?_
     refine O_m rfl ?_
     refine O_s (S_call (H1 := []) hs rfl Tryz.func89 rfl (by kernel_rfl) (rprod_ok hpw ha (by omega)) fun v11 G' H' _ hR hG63 hs => ?_)
     obtain ⟨rfl, hpw2⟩ := hR
     replace hs : St _ _ [_] _ := hs
     replace ha := ha.mono hG63
     replace hpw := hpw.mono hG63
     replace hou := hou.mono hG63
     replace hou2 := hou2.mono hG63
     refine O_a rfl ?_
     refine O_nil (T_kp [1, 2, 3, 7, 11, 12, 13] rfl ?_)
     refine T_region rfl ?_
     refine O_m rfl ?_
     refine O_y hs (Y_add (c := ((k + 1 : Nat) : Int)) rfl rfl (by omega) (by omega) ?_)
     refine O_a rfl ?_
     refine O_nil ⟨_, ?_, [(1, _), (2, _), (3, _), (7, _), (11, _), (12, _), (13, _)], ⟨rfl, rfl, rfl, rfl, rfl, rfl, rfl, trivial⟩, ⟨k + 1, _, _, _, by omega, hpw2, by show Mat _ _ _ (if mn ≤ k then _ else _); rw [if_pos (by omega)]; exact hou2, rfl, rfl, hs⟩⟩
     omega
    ·
     dsimp only [cmpP] at h55
     refine O_nil (T_kp [1, 2, 3, 7, 11, 12, 13, 55] rfl ?_)
     refine T_condF rfl (T_skip ?_)
     refine T_region rfl ?_
     refine O_m rfl ?_
     refine O_m rfl ?_
     refine O_m rfl ?_
     refine O_s (S_call (H1 := []) hs rfl Tryz.func89 rfl (by kernel_rfl) (rprod_ok hpw ha (by omega)) fun v12 G' H' _ hR hG63 hs => ?_)
     obtain ⟨rfl, hpw2⟩ := hR
     replace hs : St _ _ [_] _ := hs
     replace ha := ha.mono hG63
     replace hpw := hpw.mono hG63
     replace hou := hou.mono hG63
     refine O_a rfl ?_
     refine O_nil (T_kp [1, 2, 3, 7, 11, 12, 13] rfl ?_)
     refine T_region rfl ?_
     refine O_m rfl ?_
     refine O_y hs (Y_add (c := ((k + 1 : Nat) : Int)) rfl rfl (by omega) (by omega) ?_)
     refine O_a rfl ?_
     refine O_nil ⟨_, ?_, [(1, _), (2, _), (3, _), (7, _), (11, _), (12, _), (13, _)], ⟨rfl, rfl, rfl, rfl, rfl, rfl, rfl, trivial⟩, ⟨k + 1, _, _, _, by omega, hpw2, by show Mat _ _ _ (if mn ≤ k then _ else _); rw [if_neg (by omega)]; exact hou, rfl, rfl, hs⟩⟩
     omega
   ·
    dsimp only [cmpP] at h49
    refine O_nil (T_kp [1, 2, 3, 7, 11, 12, 13, 49] rfl ?_)
    refine T_condF rfl (T_exit ?_)
    refine T_seq (T_region rfl ?_)
    refine O_m rfl ?_
    refine O_a rfl ?_
    refine O_nil (T_kp [6] rfl ?_)
    refine T_ret ?_
    refine Rt_fin (vs := [_]) Tryz.results68 rfl ⟨rfl, trivial⟩ ?_
    try dsimp only [tup]
    obtain rfl : k = mostF n (mn : Int) mx + 1 := by omega
    exact ⟨_, [], hs.done, rfl, hou⟩

set_option maxHeartbeats 4000000 in
set_option maxRecDepth 10000 in
theorem rent_ok {G : Ghost} {bv ov : Value} {l : List NodeV} {b : List UInt8} {us : List Value} {k i j : Nat} {kd ll rr mn mx : Int} {c0 c1 c2 c3 : Nat} (he : errF 0 l = 0) (hk : k < l.length) (hnk : (⟨kd, [c0, c1, c2, c3], ll, rr, mn, mx⟩ : NodeV) = l[k]) (hus : TabV G us l b) (hul : us.length = k) (hw : Bytes G bv b) (hij : i ≤ j) (hj : j ≤ b.length) (hb : b.length ≤ 1000) (hl : l.length ≤ 1000) :
  FnOk Tryz.prog 67 [.agg #[.int .i64 kd, u64V c0, u64V c1, u64V c2, u64V c3, .int .i64 ll, .int .i64 rr, .int .i64 mn, .int .i64 mx], ov, bv, .int .i64 (i : Int), .int .i64 (j : Int)] G [.row 81 1 ov us.length us] fun r _ H' => H' = [.row 81 1 ov us.length us] ∧ r = .bool (eK l b k i j) := by
 obtain ⟨Ab, cb, rfl, _⟩ := id hw
 have hne := err_at (l := l) 0 he k hk (Nat.zero_le _)
 have hkk : l[k].kind = kd := by rw [← hnk]
 rw [← hnk] at hne
 have hop := nodeE_ops hne
 have hkd := nodeE_kind hne
 dsimp only at hkd
 refine FnOk.of_T [(0, _), (1, _), (2, _), (3, _), (4, _)] Tryz.func67 rfl Tryz.ntmps67 (by simp) rfl fun w0 hs => ?_
 have hw0 := hw
 have hus0 := hus
 refine T_seq (T_region rfl ?_)
 refine O_s (S_box hs rfl (cs := [_, _, _, _, _, _, _, _, _]) rfl fun b5 _ hs => ?_)
 refine O_a rfl ?_
 refine O_nil (T_kp [1, 2, 3, 4, 5] rfl ?_)
 refine T_seq (T_seq (T_region rfl ?_))
 refine O_y hs (Y_fieldAddr FO42_0 rfl (m := 0) rfl ?_)
 refine O_y hs (Y_ld 0 Tryz.isAgg3 rfl rfl rfl ?_)
 refine O_nil (T_kp [1, 2, 3, 4, 5, 13] rfl ?_)
 refine T_block (T_seq (T_region rfl ?_))
 refine O_y hs (Y_cmpS rfl rfl rfl (fun h15 => ?_) (fun h15 => ?_))
 ·
  dsimp only [cmpP] at h15
  refine O_a rfl ?_
  refine O_nil (T_kp [1, 2, 3, 4, 5, 13, 14] rfl ?_)
  refine T_condT rfl (T_seq (T_region rfl ?_))
  refine O_m rfl ?_
  refine O_m rfl ?_
  refine O_y hs (Y_cmpS rfl rfl rfl (fun h18 => ?_) (fun h18 => ?_))
  ·
   dsimp only [cmpP] at h18
   refine O_a rfl ?_
   refine O_nil (T_kp [10] rfl ?_)
   refine T_ret ?_
   have hs := hs.f1
   refine Rt_fin (vs := [_]) Tryz.results67 rfl ⟨rfl, trivial⟩ ?_
   try dsimp only [tup]
   exact ⟨_, _, hs.weak hs.le (Ghost.le.refl _) (List.sublist_append_left [_] _), rfl, by rw [eK_n hk (by rw [hkk]; omega), eN_2 he hk (by rw [hkk]; omega) (by omega), decide_eq_true (by omega)]⟩
  ·
   dsimp only [cmpP] at h18
   refine O_a rfl ?_
   refine O_nil (T_kp [10] rfl ?_)
   refine T_ret ?_
   have hs := hs.f1
   refine Rt_fin (vs := [_]) Tryz.results67 rfl ⟨rfl, trivial⟩ ?_
   try dsimp only [tup]
   exact ⟨_, _, hs.weak hs.le (Ghost.le.refl _) (List.sublist_append_left [_] _), rfl, by rw [eK_n hk (by rw [hkk]; omega), eN_2 he hk (by rw [hkk]; omega) (by omega), decide_eq_false (by omega)]⟩
 ·
  dsimp only [cmpP] at h15
  refine O_a rfl ?_
  refine O_nil (T_kp [1, 2, 3, 4, 5, 13, 14] rfl ?_)
  refine T_condF rfl (T_seq (T_region rfl ?_))
  refine O_y hs (Y_cmpS rfl rfl rfl (fun h20 => ?_) (fun h20 => ?_))
  ·
   dsimp only [cmpP] at h20
   refine O_a rfl ?_
   refine O_nil (T_kp [1, 2, 3, 4, 5, 13, 19] rfl ?_)
   refine T_condT rfl (T_seq (T_drawS [0, 1, 2, 3, 4, 5, 6, 7, 8, 9, 10, 11, 12, 13] hs (by kernel_rfl) ?_))
   replace hs := hs.drew
   refine A_take 0 rfl (by kernel_rfl) rfl hs (Y_move rfl ?_)
   refine A_take 1 rfl (by kernel_rfl) rfl hs (Y_move rfl ?_)
   refine A_take 2 rfl (by kernel_rfl) rfl hs (Y_add (c := ((i + 1 : Nat) : Int)) rfl rfl (by omega) (by omega) ?_)
   refine A_take 3 rfl (by kernel_rfl) rfl hs (Y_cmpS rfl rfl rfl (fun h24 => ?_) (fun h24 => ?_))
   ·
    dsimp only [cmpP] at h24
    refine A_take 4 rfl (by kernel_rfl) rfl hs (Y_move rfl ?_)
    refine A_take 5 rfl (by kernel_rfl) rfl hs (Y_fieldAddr FO42_1 rfl (m := 1) rfl ?_)
    refine A_take 6 rfl (by kernel_rfl) rfl hs (Y_ldA 0 Tryz.isAgg40 Tryz.sizeOf40 rfl rfl (vs := [_, _, _, _]) rfl rfl ?_)
    refine A_take 7 rfl (by kernel_rfl) rfl hs (Y_move rfl ?_)
    refine A_take 8 rfl (by kernel_rfl) rfl hs (Y_move rfl ?_)
    refine A_take 9 rfl (by kernel_rfl) rfl hs (Y_idxB hw i Tryz.underlying30 Tryz.sizeOf5 rfl rfl rfl (by omega) fun p30 hp30 => ?_)
    refine A_take 10 rfl (by kernel_rfl) rfl hs (Y_ldG Tryz.isAgg5 rfl (hp30) ?_)
    have hle := hs.le
    refine A_only 11 rfl (by kernel_rfl) rfl (S_call (H1 := []) hs rfl Tryz.func84 rfl (by kernel_rfl) (rhas_ok (c := [c0, c1, c2, c3]) (x := b[i]'(by omega)) rfl) fun v1 G' H' _ hR hG32 hs => ?_)
    obtain ⟨rfl, rfl⟩ := hR
    replace hs : St _ _ [_, _] _ := hs
    replace hw := hw.mono hG32
    replace hus := hus.mono hG32
    refine A_moreS hs hle hG32 (List.Sublist.refl _) ?_
    refine A_take 12 rfl (by kernel_rfl) rfl hs (Y_pickT rfl rfl ?_)
    refine A_take 13 rfl (by kernel_rfl) rfl hs (Y_assign rfl ?_)
    refine A_done (by kernel_rfl) (T_kp [10] rfl ?_)
    refine T_ret ?_
    have hs := hs.f1
    refine Rt_fin (vs := [_]) Tryz.results67 rfl ⟨rfl, trivial⟩ ?_
    try dsimp only [tup]
    exact ⟨_, _, hs.weak hs.le (Ghost.le.refl _) (List.sublist_append_left [_] _), rfl, by rw [eK_n hk (by rw [hkk]; omega), eN_3 he hk (by rw [hkk]; omega) hj, decide_eq_true (by omega), List.getElem?_eq_getElem (by omega), ← hnk]; rfl⟩
   ·
    dsimp only [cmpP] at h24
    refine A_take 4 rfl (by kernel_rfl) rfl hs (Y_move rfl ?_)
    refine A_skip 5 rfl (by kernel_rfl) rfl hs ?_
    refine A_skip 6 rfl (by kernel_rfl) rfl hs ?_
    refine A_skip 7 rfl (by kernel_rfl) rfl hs ?_
    refine A_skip 8 rfl (by kernel_rfl) rfl hs ?_
    refine A_skip 9 rfl (by kernel_rfl) rfl hs ?_
    refine A_skip 10 rfl (by kernel_rfl) rfl hs ?_
    refine A_skip 11 rfl (by kernel_rfl) rfl hs ?_
    refine A_take 12 rfl (by kernel_rfl) rfl hs (Y_pickF rfl rfl ?_)
    refine A_take 13 rfl (by kernel_rfl) rfl hs (Y_assign rfl ?_)
    refine A_done (by kernel_rfl) (T_kp [10] rfl ?_)
    refine T_ret ?_
    have hs := hs.f1
    refine Rt_fin (vs := [_]) Tryz.results67 rfl ⟨rfl, trivial⟩ ?_
    try dsimp only [tup]
    exact ⟨_, _, hs.weak hs.le (Ghost.le.refl _) (List.sublist_append_left [_] _), rfl, by rw [eK_n hk (by rw [hkk]; omega), eN_3 he hk (by rw [hkk]; omega) hj, decide_eq_false (by omega)]; rfl⟩
  ·
   dsimp only [cmpP] at h20
   refine O_a rfl ?_
   refine O_nil (T_kp [1, 2, 3, 4, 5, 13, 19] rfl ?_)
   refine T_condF rfl (T_seq (T_region rfl ?_))
   refine O_y hs (Y_cmpS rfl rfl rfl (fun h35 => ?_) (fun h35 => ?_))
   ·
    dsimp only [cmpP] at h35
    refine O_a rfl ?_
    refine O_nil (T_kp [1, 3, 4, 5, 13, 34] rfl ?_)
    have ha := arF_2 (k := kd) (by omega)
    have hl12 := ops_l hop (by dsimp only; omega)
    dsimp only at hl12
    obtain ⟨L, rfl⟩ : ∃ L : Nat, ll = (L : Int) := Int.eq_ofNat_of_zero_le hl12.1
    have hr12 := ops_r hop (by dsimp only; omega)
    dsimp only at hr12
    obtain ⟨R, rfl⟩ : ∃ R : Nat, rr = (R : Int) := Int.eq_ofNat_of_zero_le hr12.1
    have hRR : l[k].r.toNat = R := by rw [← hnk]; rfl
    have hMR := hus R (by omega)
    have hLL : l[k].l.toNat = L := by rw [← hnk]; rfl
    have hML := hus L (by omega)
    obtain ⟨bO, cO, rfl, _⟩ := hs.rowForm 1 rfl (by omega)
    refine T_condT rfl (T_seq (T_seq (T_region rfl ?_)))
    refine O_m rfl ?_
    refine O_a rfl ?_
    refine O_nil (T_kp [1, 3, 4, 5, 11] rfl ?_)
    refine T_block (T_loop (fun m E w => ∃ (q : Nat) (G' : Ghost), i ≤ q ∧ q ≤ j + 1 ∧ (∀ x, i ≤ x → x < q → ¬ (eN l b L i x = true ∧ eN l b R x j = true)) ∧ m = j + 1 - q ∧ E = ⟨[], [(1, .slice (some ⟨bO, 0, none⟩) us.length cO), (3, .int .i64 (i : Int)), (4, .int .i64 (j : Int)), (5, .pointer (some ⟨b5, 0, none⟩)), (11, .int .i64 (q : Int))]⟩ ∧ St ⟨w0, G, feet [.row 81 1 (.slice (some ⟨bO, 0, none⟩) us.length cO) us.length us]⟩ G' [.blk b5 42 [.int .i64 kd, u64V c0, u64V c1, u64V c2, u64V c3, .int .i64 (L : Int), .int .i64 (R : Int), .int .i64 mn, .int .i64 mx], .row 81 1 (.slice (some ⟨bO, 0, none⟩) us.length cO) us.length us] w) (L := [(1, _), (3, _), (4, _), (5, _), (11, _)]) ⟨rfl, rfl, rfl, rfl, rfl, trivial⟩ (⟨i, _, Nat.le_refl _, by omega, fun x h1 h2 => absurd h1 (by omega), rfl, rfl, hs⟩) fun m E w hI => ?_)
    obtain ⟨q, G', hiq, hq, hno, rfl, rfl, hs⟩ := hI
    have hw := hw0.mono hs.le
    have hus := hus0.mono hs.le
    have hML := hus L (by omega)
    have hMR := hus R (by omega)
    refine T_seq (T_seq (T_region rfl ?_))
    refine O_m rfl ?_
    refine O_m rfl ?_
    refine O_y hs (Y_cmpS rfl rfl rfl (fun h39 => ?_) (fun h39 => ?_))
    ·
     dsimp only [cmpP] at h39
     refine O_nil (T_kp [1, 3, 4, 5, 11, 39] rfl ?_)
     refine T_condT rfl (T_skip ?_)
     refine T_seq (T_block (T_seq (T_region rfl ?_)))
     refine O_m rfl ?_
     refine O_y hs (Y_fieldAddr FO42_2 rfl (m := 5) rfl ?_)
     refine O_y hs (Y_ld 0 Tryz.isAgg3 rfl rfl rfl ?_)
     refine O_y hs (Y_idxRow (L) Tryz.underlying79 Tryz.sizeOf81 rfl rfl rfl (by omega) ?_)
     refine O_y hs (Y_ldRow 1 rfl Tryz.isAgg81 rfl (List.getElem?_eq_getElem (by omega)) ?_)
     refine O_m rfl ?_
     refine O_y hs (Y_idxS hML i Tryz.underlying81 Tryz.sizeOf75 rfl rfl rfl (by rw [rowsL_len]; omega) fun p48 c48 hp48 hc48 hR48 => ?_)
     obtain ⟨u48, rfl, hb48⟩ := hR48
     rw [rowsL_get] at hb48
     refine O_y hs (Y_ldG Tryz.isAgg75 rfl (gcell_0 (hp48 0 _ rfl)) ?_)
     refine O_m rfl ?_
     refine O_y hs (Y_idx1 (q) Tryz.underlying75 Tryz.sizeOf4 hb48 rfl rfl rfl (rowV_at (by omega)) fun p51 hp51 => ?_)
     refine O_y hs (Y_ldG Tryz.isAgg4 rfl (hp51) ?_)
     cases h53 : eN l b L i q
     ·
      refine O_m rfl ?_
      refine O_no 53 rfl rfl ?_
      refine O_no 53 rfl rfl ?_
      refine O_no 53 rfl rfl ?_
      refine O_no 53 rfl rfl ?_
      refine O_no 53 rfl rfl ?_
      refine O_no 53 rfl rfl ?_
      refine O_no 53 rfl rfl ?_
      refine O_no 53 rfl rfl ?_
      refine O_no 53 rfl rfl ?_
      refine O_no 53 rfl rfl ?_
      refine O_no 53 rfl rfl ?_
      refine O_y hs (Y_pickF rfl rfl ?_)
      refine O_nil (T_kp [1, 3, 4, 5, 11, 65] rfl ?_)
      refine T_condF rfl (T_skip ?_)
      refine T_region rfl ?_
      refine O_m rfl ?_
      refine O_y hs (Y_add (c := ((q + 1 : Nat) : Int)) rfl rfl (by omega) (by omega) ?_)
      refine O_a rfl ?_
      have hs := hs.f1
      have hs := hs.f1
      refine O_nil ⟨_, ?_, [(1, _), (3, _), (4, _), (5, _), (11, _)], ⟨rfl, rfl, rfl, rfl, rfl, trivial⟩, ⟨q + 1, _, by omega, by omega, fun x h1 h2 => (Nat.lt_or_ge x q).elim (hno x h1) (fun h => by obtain rfl : x = q := (by omega); rw [h53]; exact fun h => (by cases h.1)), rfl, rfl, hs⟩⟩
      omega
     ·
      refine O_m rfl ?_
      refine O_yy 53 hs rfl rfl (Y_move rfl ?_)
      refine O_yy 53 hs rfl rfl (Y_fieldAddr FO42_3 rfl (m := 6) rfl ?_)
      refine O_yy 53 hs rfl rfl (Y_ld 0 Tryz.isAgg3 rfl rfl rfl ?_)
      refine O_yy 53 hs rfl rfl (Y_idxRow (R) Tryz.underlying79 Tryz.sizeOf81 rfl rfl rfl (by omega) ?_)
      refine O_yy 53 hs rfl rfl (Y_ldRow 1 rfl Tryz.isAgg81 rfl (List.getElem?_eq_getElem (by omega)) ?_)
      refine O_yy 53 hs rfl rfl (Y_move rfl ?_)
      refine O_yy 53 hs rfl rfl (Y_idxS hMR q Tryz.underlying81 Tryz.sizeOf75 rfl rfl rfl (by rw [rowsL_len]; omega) fun p60 c60 hp60 hc60 hR60 => ?_)
      obtain ⟨u60, rfl, hb60⟩ := hR60
      rw [rowsL_get] at hb60
      refine O_yy 53 hs rfl rfl (Y_ldG Tryz.isAgg75 rfl (gcell_0 (hp60 0 _ rfl)) ?_)
      refine O_yy 53 hs rfl rfl (Y_move rfl ?_)
      refine O_yy 53 hs rfl rfl (Y_idx1 (j) Tryz.underlying75 Tryz.sizeOf4 hb60 rfl rfl rfl (rowV_at (by omega)) fun p63 hp63 => ?_)
      refine O_yy 53 hs rfl rfl (Y_ldG Tryz.isAgg4 rfl (hp63) ?_)
      refine O_y hs (Y_pickT rfl rfl ?_)
      refine O_nil (T_kp [1, 3, 4, 5, 11, 65] rfl ?_)
      refine T_condS rfl (fun h65 => ?_) (fun h65 => ?_)
      ·
       refine T_seq (T_region rfl ?_)
       refine O_a rfl ?_
       refine O_nil (T_kp [10] rfl ?_)
       refine T_ret ?_
       have hs := hs.f1
       refine Rt_fin (vs := [_]) Tryz.results67 rfl ⟨rfl, trivial⟩ ?_
       try dsimp only [tup]
       exact ⟨_, _, hs.weak hs.le (Ghost.le.refl _) (List.sublist_append_left [_] _), rfl, by rw [eK_n hk (by rw [hkk]; omega), (eN_4 he hk (by rw [hkk]; omega)).2 ⟨q, by rw [hLL]; exact h53, by rw [hRR]; exact h65⟩]⟩
      ·
       refine T_skip ?_
       refine T_region rfl ?_
       refine O_m rfl ?_
       refine O_y hs (Y_add (c := ((q + 1 : Nat) : Int)) rfl rfl (by omega) (by omega) ?_)
       refine O_a rfl ?_
       have hs := hs.f1
       have hs := hs.f1
       refine O_nil ⟨_, ?_, [(1, _), (3, _), (4, _), (5, _), (11, _)], ⟨rfl, rfl, rfl, rfl, rfl, trivial⟩, ⟨q + 1, _, by omega, by omega, fun x h1 h2 => (Nat.lt_or_ge x q).elim (hno x h1) (fun h => by obtain rfl : x = q := (by omega); rw [h65]; exact fun h => (by cases h.2)), rfl, rfl, hs⟩⟩
       omega
    ·
     dsimp only [cmpP] at h39
     refine O_nil (T_kp [1, 3, 4, 5, 11, 39] rfl ?_)
     refine T_condF rfl (T_exit ?_)
     refine T_seq (T_region rfl ?_)
     refine O_a rfl ?_
     refine O_nil (T_kp [10] rfl ?_)
     refine T_ret ?_
     have hs := hs.f1
     refine Rt_fin (vs := [_]) Tryz.results67 rfl ⟨rfl, trivial⟩ ?_
     try dsimp only [tup]
     have hf : eN l b k i j = false := by rw [← Bool.not_eq_true]; intro ht; obtain ⟨x, x1, x2⟩ := (eN_4 he hk (by rw [hkk]; omega)).1 ht; rw [hLL] at x1; rw [hRR] at x2; obtain ⟨y1, y2⟩ := eN_rng he (by omega) (by omega) x1; obtain ⟨y3, y4⟩ := eN_rng he (by omega) y2 x2; exact hno x y1 (by omega) ⟨x1, x2⟩
     exact ⟨_, _, hs.weak hs.le (Ghost.le.refl _) (List.sublist_append_left [_] _), rfl, by rw [eK_n hk (by rw [hkk]; omega), hf]⟩
   ·
    dsimp only [cmpP] at h35
    refine O_a rfl ?_
    refine O_nil (T_kp [1, 3, 4, 5, 13, 34] rfl ?_)
    refine T_condF rfl (T_seq (T_region rfl ?_))
    refine O_y hs (Y_cmpS rfl rfl rfl (fun h67 => ?_) (fun h67 => ?_))
    ·
     dsimp only [cmpP] at h67
     refine O_a rfl ?_
     refine O_nil (T_kp [1, 3, 4, 5, 13, 66] rfl ?_)
     have ha := arF_2 (k := kd) (by omega)
     have hl12 := ops_l hop (by dsimp only; omega)
     dsimp only at hl12
     obtain ⟨L, rfl⟩ : ∃ L : Nat, ll = (L : Int) := Int.eq_ofNat_of_zero_le hl12.1
     have hr12 := ops_r hop (by dsimp only; omega)
     dsimp only at hr12
     obtain ⟨R, rfl⟩ : ∃ R : Nat, rr = (R : Int) := Int.eq_ofNat_of_zero_le hr12.1
     have hRR : l[k].r.toNat = R := by rw [← hnk]; rfl
     have hMR := hus R (by omega)
     have hLL : l[k].l.toNat = L := by rw [← hnk]; rfl
     have hML := hus L (by omega)
     obtain ⟨bO, cO, rfl, _⟩ := hs.rowForm 1 rfl (by omega)
     refine T_condT rfl (T_seq (T_region rfl ?_))
     refine O_m rfl ?_
     refine O_y hs (Y_fieldAddr FO42_2 rfl (m := 5) rfl ?_)
     refine O_y hs (Y_ld 0 Tryz.isAgg3 rfl rfl rfl ?_)
     refine O_y hs (Y_idxRow (L) Tryz.underlying79 Tryz.sizeOf81 rfl rfl rfl (by omega) ?_)
     refine O_y hs (Y_ldRow 1 rfl Tryz.isAgg81 rfl (List.getElem?_eq_getElem (by omega)) ?_)
     refine O_m rfl ?_
     refine O_y hs (Y_idxS hML i Tryz.underlying81 Tryz.sizeOf75 rfl rfl rfl (by rw [rowsL_len]; omega) fun p74 c74 hp74 hc74 hR74 => ?_)
     obtain ⟨u74, rfl, hb74⟩ := hR74
     rw [rowsL_get] at hb74
     refine O_y hs (Y_ldG Tryz.isAgg75 rfl (gcell_0 (hp74 0 _ rfl)) ?_)
     refine O_m rfl ?_
     refine O_y hs (Y_idx1 (j) Tryz.underlying75 Tryz.sizeOf4 hb74 rfl rfl rfl (rowV_at (by omega)) fun p77 hp77 => ?_)
     refine O_y hs (Y_ldG Tryz.isAgg4 rfl (hp77) ?_)
     cases h79 : eN l b L i j
     ·
      refine O_m rfl ?_
      refine O_yy 79 hs rfl rfl (Y_move rfl ?_)
      refine O_yy 79 hs rfl rfl (Y_fieldAddr FO42_3 rfl (m := 6) rfl ?_)
      refine O_yy 79 hs rfl rfl (Y_ld 0 Tryz.isAgg3 rfl rfl rfl ?_)
      refine O_yy 79 hs rfl rfl (Y_idxRow (R) Tryz.underlying79 Tryz.sizeOf81 rfl rfl rfl (by omega) ?_)
      refine O_yy 79 hs rfl rfl (Y_ldRow 1 rfl Tryz.isAgg81 rfl (List.getElem?_eq_getElem (by omega)) ?_)
      refine O_yy 79 hs rfl rfl (Y_move rfl ?_)
      refine O_yy 79 hs rfl rfl (Y_idxS hMR i Tryz.underlying81 Tryz.sizeOf75 rfl rfl rfl (by rw [rowsL_len]; omega) fun p86 c86 hp86 hc86 hR86 => ?_)
      obtain ⟨u86, rfl, hb86⟩ := hR86
      rw [rowsL_get] at hb86
      refine O_yy 79 hs rfl rfl (Y_ldG Tryz.isAgg75 rfl (gcell_0 (hp86 0 _ rfl)) ?_)
      refine O_yy 79 hs rfl rfl (Y_move rfl ?_)
      refine O_yy 79 hs rfl rfl (Y_idx1 (j) Tryz.underlying75 Tryz.sizeOf4 hb86 rfl rfl rfl (rowV_at (by omega)) fun p89 hp89 => ?_)
      refine O_yy 79 hs rfl rfl (Y_ldG Tryz.isAgg4 rfl (hp89) ?_)
      refine O_y hs (Y_pickF rfl rfl ?_)
      refine O_a rfl ?_
      refine O_nil (T_kp [10] rfl ?_)
      refine T_ret ?_
      have hs := hs.f1
      refine Rt_fin (vs := [_]) Tryz.results67 rfl ⟨rfl, trivial⟩ ?_
      try dsimp only [tup]
      exact ⟨_, _, hs.weak hs.le (Ghost.le.refl _) (List.sublist_append_left [_] _), rfl, by rw [eK_n hk (by rw [hkk]; omega), eN_5 he hk (by rw [hkk]; omega), hLL, hRR, h79]; rfl⟩
     ·
      refine O_m rfl ?_
      refine O_no 79 rfl rfl ?_
      refine O_no 79 rfl rfl ?_
      refine O_no 79 rfl rfl ?_
      refine O_no 79 rfl rfl ?_
      refine O_no 79 rfl rfl ?_
      refine O_no 79 rfl rfl ?_
      refine O_no 79 rfl rfl ?_
      refine O_no 79 rfl rfl ?_
      refine O_no 79 rfl rfl ?_
      refine O_no 79 rfl rfl ?_
      refine O_no 79 rfl rfl ?_
      refine O_y hs (Y_pickT rfl rfl ?_)
      refine O_a rfl ?_
      refine O_nil (T_kp [10] rfl ?_)
      refine T_ret ?_
      have hs := hs.f1
      refine Rt_fin (vs := [_]) Tryz.results67 rfl ⟨rfl, trivial⟩ ?_
      try dsimp only [tup]
      exact ⟨_, _, hs.weak hs.le (Ghost.le.refl _) (List.sublist_append_left [_] _), rfl, by rw [eK_n hk (by rw [hkk]; omega), eN_5 he hk (by rw [hkk]; omega), hLL, hRR, h79]; rfl⟩
    ·
     dsimp only [cmpP] at h67
     refine O_a rfl ?_
     refine O_nil (T_kp [1, 3, 4, 5, 13, 66] rfl ?_)
     refine T_condF rfl (T_seq (T_region rfl ?_))
     refine O_y hs (Y_cmpS rfl rfl rfl (fun h93 => ?_) (fun h93 => ?_))
     ·
      dsimp only [cmpP] at h93
      refine O_a rfl ?_
      refine O_nil (T_kp [1, 3, 4, 5, 13, 92] rfl ?_)
      have ha := arF_2 (k := kd) (by omega)
      have hl12 := ops_l hop (by dsimp only; omega)
      dsimp only at hl12
      obtain ⟨L, rfl⟩ : ∃ L : Nat, ll = (L : Int) := Int.eq_ofNat_of_zero_le hl12.1
      have hr12 := ops_r hop (by dsimp only; omega)
      dsimp only at hr12
      obtain ⟨R, rfl⟩ : ∃ R : Nat, rr = (R : Int) := Int.eq_ofNat_of_zero_le hr12.1
      have hRR : l[k].r.toNat = R := by rw [← hnk]; rfl
      have hMR := hus R (by omega)
      have hLL : l[k].l.toNat = L := by rw [← hnk]; rfl
      have hML := hus L (by omega)
      obtain ⟨bO, cO, rfl, _⟩ := hs.rowForm 1 rfl (by omega)
      refine T_condT rfl (T_seq (T_region rfl ?_))
      refine O_m rfl ?_
      refine O_y hs (Y_fieldAddr FO42_2 rfl (m := 5) rfl ?_)
      refine O_y hs (Y_ld 0 Tryz.isAgg3 rfl rfl rfl ?_)
      refine O_y hs (Y_idxRow (L) Tryz.underlying79 Tryz.sizeOf81 rfl rfl rfl (by omega) ?_)
      refine O_y hs (Y_ldRow 1 rfl Tryz.isAgg81 rfl (List.getElem?_eq_getElem (by omega)) ?_)
      refine O_m rfl ?_
      refine O_y hs (Y_idxS hML i Tryz.underlying81 Tryz.sizeOf75 rfl rfl rfl (by rw [rowsL_len]; omega) fun p100 c100 hp100 hc100 hR100 => ?_)
      obtain ⟨u100, rfl, hb100⟩ := hR100
      rw [rowsL_get] at hb100
      refine O_y hs (Y_ldG Tryz.isAgg75 rfl (gcell_0 (hp100 0 _ rfl)) ?_)
      refine O_m rfl ?_
      refine O_y hs (Y_idx1 (j) Tryz.underlying75 Tryz.sizeOf4 hb100 rfl rfl rfl (rowV_at (by omega)) fun p103 hp103 => ?_)
      refine O_y hs (Y_ldG Tryz.isAgg4 rfl (hp103) ?_)
      cases h105 : eN l b L i j
      ·
       refine O_m rfl ?_
       refine O_no 105 rfl rfl ?_
       refine O_no 105 rfl rfl ?_
       refine O_no 105 rfl rfl ?_
       refine O_no 105 rfl rfl ?_
       refine O_no 105 rfl rfl ?_
       refine O_no 105 rfl rfl ?_
       refine O_no 105 rfl rfl ?_
       refine O_no 105 rfl rfl ?_
       refine O_no 105 rfl rfl ?_
       refine O_no 105 rfl rfl ?_
       refine O_no 105 rfl rfl ?_
       refine O_y hs (Y_pickF rfl rfl ?_)
       refine O_a rfl ?_
       refine O_nil (T_kp [10] rfl ?_)
       refine T_ret ?_
       have hs := hs.f1
       refine Rt_fin (vs := [_]) Tryz.results67 rfl ⟨rfl, trivial⟩ ?_
       try dsimp only [tup]
       exact ⟨_, _, hs.weak hs.le (Ghost.le.refl _) (List.sublist_append_left [_] _), rfl, by rw [eK_n hk (by rw [hkk]; omega), eN_6 he hk (by rw [hkk]; omega), hLL, hRR, h105]; rfl⟩
      ·
       refine O_m rfl ?_
       refine O_yy 105 hs rfl rfl (Y_move rfl ?_)
       refine O_yy 105 hs rfl rfl (Y_fieldAddr FO42_3 rfl (m := 6) rfl ?_)
       refine O_yy 105 hs rfl rfl (Y_ld 0 Tryz.isAgg3 rfl rfl rfl ?_)
       refine O_yy 105 hs rfl rfl (Y_idxRow (R) Tryz.underlying79 Tryz.sizeOf81 rfl rfl rfl (by omega) ?_)
       refine O_yy 105 hs rfl rfl (Y_ldRow 1 rfl Tryz.isAgg81 rfl (List.getElem?_eq_getElem (by omega)) ?_)
       refine O_yy 105 hs rfl rfl (Y_move rfl ?_)
       refine O_yy 105 hs rfl rfl (Y_idxS hMR i Tryz.underlying81 Tryz.sizeOf75 rfl rfl rfl (by rw [rowsL_len]; omega) fun p112 c112 hp112 hc112 hR112 => ?_)
       obtain ⟨u112, rfl, hb112⟩ := hR112
       rw [rowsL_get] at hb112
       refine O_yy 105 hs rfl rfl (Y_ldG Tryz.isAgg75 rfl (gcell_0 (hp112 0 _ rfl)) ?_)
       refine O_yy 105 hs rfl rfl (Y_move rfl ?_)
       refine O_yy 105 hs rfl rfl (Y_idx1 (j) Tryz.underlying75 Tryz.sizeOf4 hb112 rfl rfl rfl (rowV_at (by omega)) fun p115 hp115 => ?_)
       refine O_yy 105 hs rfl rfl (Y_ldG Tryz.isAgg4 rfl (hp115) ?_)
       refine O_y hs (Y_pickT rfl rfl ?_)
       refine O_a rfl ?_
       refine O_nil (T_kp [10] rfl ?_)
       refine T_ret ?_
       have hs := hs.f1
       refine Rt_fin (vs := [_]) Tryz.results67 rfl ⟨rfl, trivial⟩ ?_
       try dsimp only [tup]
       exact ⟨_, _, hs.weak hs.le (Ghost.le.refl _) (List.sublist_append_left [_] _), rfl, by rw [eK_n hk (by rw [hkk]; omega), eN_6 he hk (by rw [hkk]; omega), hLL, hRR, h105]; rfl⟩
     ·
      dsimp only [cmpP] at h93
      refine O_a rfl ?_
      refine O_nil (T_kp [1, 3, 4, 5, 13, 92] rfl ?_)
      refine T_condF rfl (T_seq (T_region rfl ?_))
      refine O_y hs (Y_cmpS rfl rfl rfl (fun h119 => ?_) (fun h119 => ?_))
      ·
       dsimp only [cmpP] at h119
       refine O_a rfl ?_
       refine O_nil (T_kp [1, 3, 4, 5, 118] rfl ?_)
       have ha := arF_1 (k := kd) (by omega)
       have hl12 := ops_l hop (by dsimp only; omega)
       dsimp only at hl12
       obtain ⟨L, rfl⟩ : ∃ L : Nat, ll = (L : Int) := Int.eq_ofNat_of_zero_le hl12.1
       have hLL : l[k].l.toNat = L := by rw [← hnk]; rfl
       have hML := hus L (by omega)
       obtain ⟨bO, cO, rfl, _⟩ := hs.rowForm 1 rfl (by omega)
       refine T_condT rfl (T_seq (T_region rfl ?_))
       refine O_m rfl ?_
       refine O_y hs (Y_fieldAddr FO42_2 rfl (m := 5) rfl ?_)
       refine O_y hs (Y_ld 0 Tryz.isAgg3 rfl rfl rfl ?_)
       refine O_y hs (Y_idxRow (L) Tryz.underlying79 Tryz.sizeOf81 rfl rfl rfl (by omega) ?_)
       refine O_y hs (Y_ldRow 1 rfl Tryz.isAgg81 rfl (List.getElem?_eq_getElem (by omega)) ?_)
       refine O_m rfl ?_
       refine O_y hs (Y_idxS hML i Tryz.underlying81 Tryz.sizeOf75 rfl rfl rfl (by rw [rowsL_len]; omega) fun p126 c126 hp126 hc126 hR126 => ?_)
       obtain ⟨u126, rfl, hb126⟩ := hR126
       rw [rowsL_get] at hb126
       refine O_y hs (Y_ldG Tryz.isAgg75 rfl (gcell_0 (hp126 0 _ rfl)) ?_)
       refine O_m rfl ?_
       refine O_y hs (Y_idx1 (j) Tryz.underlying75 Tryz.sizeOf4 hb126 rfl rfl rfl (rowV_at (by omega)) fun p129 hp129 => ?_)
       refine O_y hs (Y_ldG Tryz.isAgg4 rfl (hp129) ?_)
       refine O_y hs (Y_not rfl ?_)
       refine O_a rfl ?_
       refine O_nil (T_kp [10] rfl ?_)
       refine T_ret ?_
       have hs := hs.f1
       refine Rt_fin (vs := [_]) Tryz.results67 rfl ⟨rfl, trivial⟩ ?_
       try dsimp only [tup]
       exact ⟨_, _, hs.weak hs.le (Ghost.le.refl _) (List.sublist_append_left [_] _), rfl, by rw [eK_n hk (by rw [hkk]; omega), eN_7 he hk (by rw [hkk]; omega) hij hj, hLL]⟩
      ·
       dsimp only [cmpP] at h119
       refine O_a rfl ?_
       refine O_nil (T_kp [1, 3, 4, 5, 118] rfl ?_)
       refine T_condF rfl (T_skip ?_)
       refine T_seq (T_region rfl ?_)
       refine O_a rfl ?_
       refine O_nil (T_kp [10] rfl ?_)
       refine T_ret ?_
       have hs := hs.f1
       refine Rt_fin (vs := [_]) Tryz.results67 rfl ⟨rfl, trivial⟩ ?_
       try dsimp only [tup]
       have hv : eK l b k i j = false := (show kd = 1 ∨ kd = 8 by omega).elim (fun h => by rw [eK_n hk (by rw [hkk]; omega), eN_1 he hk (hkk.trans h)]) (fun h => eK_8 hk (hkk.trans h))
       exact ⟨_, _, hs.weak hs.le (Ghost.le.refl _) (List.sublist_append_left [_] _), rfl, by rw [hv]⟩

set_option maxHeartbeats 4000000 in
set_option maxRecDepth 10000 in
theorem rtab_ok {G : Ghost} {v bv : Value} {l : List NodeV} {b : List UInt8} (hx : Rx G v l) (hw : Bytes G bv b) (he : errF 0 l = 0) (hl : l.length ≤ 1000) (hb : b.length ≤ 1000) :
  FnOk Tryz.prog 47 [v, bv] G [] fun r G' H' => ∃ us : List Value, us.length = l.length ∧ TabV G' us l b ∧ H' = [.row 81 1 r us.length us] := by
 obtain ⟨A, cap, rfl⟩ := LstR.slice hx
 obtain ⟨Ab, cb, rfl, _⟩ := id hw
 refine FnOk.of_T [(0, _), (1, _)] Tryz.func47 rfl Tryz.ntmps47 (by simp) rfl fun w0 hs => ?_
 have hx0 := hx
 have hw0 := hw
 refine T_seq (T_region rfl ?_)
 refine O_a rfl ?_
 refine O_nil (T_kp [0, 1] rfl ?_)
 refine T_seq (T_region rfl ?_)
 refine O_s (S_lit hs Tryz.underlying79 Tryz.sizeOf81 Tryz.zeroValue81 rfl rfl (by decide) (by decide) rfl (cs := []) rfl rfl fun v1 _ hs _ => ?_)
 refine O_a rfl ?_
 refine O_nil (T_kp [0, 1, 5] rfl ?_)
 refine T_seq (T_seq (T_region rfl ?_))
 refine O_a rfl ?_
 refine O_nil (T_kp [0, 1, 5, 6] rfl ?_)
 refine T_block (T_loop (fun m E w => ∃ (k : Nat) (us : List Value) (v5 : Value) (G' : Ghost), us.length = k ∧ k ≤ l.length ∧ TabV G' us l b ∧ m = l.length - k ∧ E = ⟨[], [(0, (.slice A l.length cap)), (1, (.slice Ab b.length cb)), (5, v5), (6, .int .i64 (k : Int))]⟩ ∧ St ⟨w0, G, feet []⟩ G' [.row 81 1 v5 us.length us] w) (L := [(0, _), (1, _), (5, _), (6, _)]) ⟨rfl, rfl, rfl, rfl, trivial⟩ (⟨0, [], _, _, rfl, by omega, fun q h => absurd h (Nat.not_lt_zero q), rfl, rfl, hs⟩) fun m E w hI => ?_)
 obtain ⟨k, us, v5, G', hul, hk, hus, rfl, rfl, hs⟩ := hI
 have hx := hx0.mono hs.le
 have hw := hw0.mono hs.le
 refine T_seq (T_seq (T_region rfl ?_))
 refine O_m rfl ?_
 refine O_m rfl ?_
 refine O_y hs (Y_len Tryz.underlying24 rfl ?_)
 refine O_y hs (Y_cmpS rfl rfl rfl (fun h15 => ?_) (fun h15 => ?_))
 ·
  dsimp only [cmpP] at h15
  refine O_nil (T_kp [0, 1, 5, 6, 15] rfl ?_)
  refine T_condT rfl (T_skip ?_)
  refine T_seq (T_block (T_seq (T_region rfl ?_)))
  refine O_s (S_lit hs Tryz.underlying81 Tryz.sizeOf75 Tryz.zeroValue75 rfl rfl (by decide) (by decide) rfl (cs := []) rfl rfl fun v2 _ hs _ => ?_)
  refine O_a rfl ?_
  refine O_nil (T_kp [0, 1, 5, 6, 7] rfl ?_)
  refine T_seq (T_seq (T_region rfl ?_))
  refine O_a rfl ?_
  refine O_nil (T_kp [0, 1, 5, 6, 7, 8] rfl ?_)
  refine T_block (T_loop (fun m E w => ∃ (i : Nat) (bs : List Nat) (v7 : Value) (G' : Ghost), bs.length = i ∧ i ≤ b.length + 1 ∧ TabV G' us l b ∧ m = b.length + 1 - i ∧ E = ⟨[], [(0, (.slice A l.length cap)), (1, (.slice Ab b.length cb)), (5, v5), (6, .int .i64 (k : Int)), (7, v7), (8, .int .i64 (i : Int))]⟩ ∧ St ⟨w0, G, feet []⟩ G' (.row 75 1 v7 bs.length (bs.map (rowAd b.length)) :: .row 81 1 v5 us.length us :: tailT 4 b.length bs (rowsL b.length zeM i)) w) (L := [(0, _), (1, _), (5, _), (6, _), (7, _), (8, _)]) ⟨rfl, rfl, rfl, rfl, rfl, rfl, trivial⟩ (⟨0, [], _, _, rfl, by omega, hus, rfl, rfl, hs⟩) fun m E w hI => ?_)
  obtain ⟨i, bs, v7, G', hbl, hi, hus, rfl, rfl, hs⟩ := hI
  have hx := hx0.mono hs.le
  have hw := hw0.mono hs.le
  refine T_seq (T_seq (T_region rfl ?_))
  refine O_m rfl ?_
  refine O_m rfl ?_
  refine O_y hs (Y_len Tryz.underlying30 rfl ?_)
  refine O_y hs (Y_cmpS rfl rfl rfl (fun h22 => ?_) (fun h22 => ?_))
  ·
   dsimp only [cmpP] at h22
   refine O_nil (T_kp [0, 1, 5, 6, 7, 8, 22] rfl ?_)
   refine T_condT rfl (T_skip ?_)
   refine T_seq (T_block (T_region rfl ?_))
   refine O_m rfl ?_
   refine O_m rfl ?_
   refine O_y hs (Y_len Tryz.underlying30 rfl ?_)
   refine O_y hs (Y_add (c := ((b.length + 1 : Nat) : Int)) rfl rfl (by omega) (by omega) ?_)
   refine O_s (S_make (n := (b.length + 1)) (m := (b.length + 1)) hs Tryz.underlying75 TI4 rfl rfl rfl (by omega) (by omega) (by omega) fun b29 _ hs => ?_)
   refine O_s (S_lit hs Tryz.underlying81 Tryz.sizeOf75 Tryz.zeroValue75 rfl rfl (by decide) (by decide) rfl (cs := [_]) rfl rfl fun v3 _ hs _ => ?_)
   obtain ⟨_, hG30, hl30, hs⟩ := hs.fixRow noM
   replace hx := hx.mono hG30
   replace hw := hw.mono hG30
   replace hus := hus.mono hG30
   have hs := hs.front 1 rfl (H' := (_ :: _ :: _ :: _)) rfl
   refine O_s (S_append hs Tryz.underlying81 TI75 rfl (by decide) rfl rfl (hl30) (one1 rfl) (by omega) (by omega) fun v4 _ hs => ?_)
   refine O_a rfl ?_
   refine O_nil (T_kp [0, 1, 5, 6, 7, 8] rfl ?_)
   refine T_region rfl ?_
   refine O_m rfl ?_
   refine O_y hs (Y_add (c := ((i + 1 : Nat) : Int)) rfl rfl (by omega) (by omega) ?_)
   refine O_a rfl ?_
   have hs := hs.front 1 rfl (H' := (_ :: _ :: _ :: _)) rfl
   have hs := hs.front 2 rfl (H' := (_ :: _ :: _ :: _)) rfl
   have hs := hs.front 2 rfl (H' := (_ :: _ :: _ :: _)) rfl
   rw [zeM_row (i := i)] at hs
   have hs := St.tailPush hs
   refine O_nil ⟨_, ?_, [(0, _), (1, _), (5, _), (6, _), (7, _), (8, _)], ⟨rfl, rfl, rfl, rfl, rfl, rfl, trivial⟩, ⟨i + 1, bs ++ [b29], v4, _, by rw [List.length_append, hbl]; rfl, by omega, hus, rfl, rfl, by rw [List.length_append, List.map_append, rowsL_succ, tail_snoc (by rw [rowsL_len]; exact hbl)]; exact hs⟩⟩
   omega
  ·
   dsimp only [cmpP] at h22
   refine O_nil (T_kp [0, 1, 5, 6, 7, 8, 22] rfl ?_)
   refine T_condF rfl (T_exit ?_)
   obtain rfl : i = b.length + 1 := by omega
   obtain ⟨bT, cT, rfl, _⟩ := hs.rowForm 0 rfl (by omega)
   have hs := hs.front 1 rfl (H' := (_ :: _ :: _)) rfl
   rw [stM_0 (F := eK l b k)] at hs
   refine T_seq (T_seq (T_region rfl ?_))
   refine O_a rfl ?_
   refine O_nil (T_kp [0, 1, 5, 6, 7, 9] rfl ?_)
   refine T_block (T_loop (fun m E w => ∃ (i : Nat) (G' : Ghost), i ≤ b.length + 1 ∧ TabV G' us l b ∧ m = b.length + 1 - i ∧ E = ⟨[], [(0, (.slice A l.length cap)), (1, (.slice Ab b.length cb)), (5, v5), (6, .int .i64 (k : Int)), (7, .slice (some ⟨bT, 0, none⟩) bs.length cT), (9, .int .i64 (i : Int))]⟩ ∧ St ⟨w0, G, feet []⟩ G' (.row 81 1 v5 us.length us :: .row 75 1 (.slice (some ⟨bT, 0, none⟩) bs.length cT) bs.length (bs.map (rowAd b.length)) :: tailT 4 b.length bs (rowsL b.length (stM (eK l b k) i 0) (b.length + 1))) w) (L := [(0, _), (1, _), (5, _), (6, _), (7, _), (9, _)]) ⟨rfl, rfl, rfl, rfl, rfl, rfl, trivial⟩ (⟨0, _, by omega, hus, rfl, rfl, hs⟩) fun m E w hI => ?_)
   obtain ⟨i, G', hi, hus, rfl, rfl, hs⟩ := hI
   have hx := hx0.mono hs.le
   have hw := hw0.mono hs.le
   refine T_seq (T_seq (T_region rfl ?_))
   refine O_m rfl ?_
   refine O_m rfl ?_
   refine O_y hs (Y_len Tryz.underlying30 rfl ?_)
   refine O_y hs (Y_cmpS rfl rfl rfl (fun h35 => ?_) (fun h35 => ?_))
   ·
    dsimp only [cmpP] at h35
    refine O_nil (T_kp [0, 1, 5, 6, 7, 9, 35] rfl ?_)
    refine T_condT rfl (T_skip ?_)
    refine T_seq (T_block (T_seq (T_region rfl ?_)))
    refine O_m rfl ?_
    refine O_a rfl ?_
    refine O_nil (T_kp [0, 1, 5, 6, 7, 9, 10] rfl ?_)
    refine T_block (T_loop (fun m E w => ∃ (j : Nat) (G' : Ghost), i ≤ j ∧ j ≤ b.length + 1 ∧ TabV G' us l b ∧ m = b.length + 1 - j ∧ E = ⟨[], [(0, (.slice A l.length cap)), (1, (.slice Ab b.length cb)), (5, v5), (6, .int .i64 (k : Int)), (7, .slice (some ⟨bT, 0, none⟩) bs.length cT), (9, .int .i64 (i : Int)), (10, .int .i64 (j : Int))]⟩ ∧ St ⟨w0, G, feet []⟩ G' (.row 81 1 v5 us.length us :: .row 75 1 (.slice (some ⟨bT, 0, none⟩) bs.length cT) bs.length (bs.map (rowAd b.length)) :: tailT 4 b.length bs (rowsL b.length (stM (eK l b k) i j) (b.length + 1))) w) (L := [(0, _), (1, _), (5, _), (6, _), (7, _), (9, _), (10, _)]) ⟨rfl, rfl, rfl, rfl, rfl, rfl, rfl, trivial⟩ (⟨i, _, Nat.le_refl _, by omega, hus, rfl, rfl, by rw [← stM_start (fun a c ha hc => eK_low he (by omega) ha hc)]; exact hs⟩) fun m E w hI => ?_)
    obtain ⟨j, G', hij, hj, hus, rfl, rfl, hs⟩ := hI
    have hx := hx0.mono hs.le
    have hw := hw0.mono hs.le
    refine T_seq (T_seq (T_region rfl ?_))
    refine O_m rfl ?_
    refine O_m rfl ?_
    refine O_y hs (Y_len Tryz.underlying30 rfl ?_)
    refine O_y hs (Y_cmpS rfl rfl rfl (fun h42 => ?_) (fun h42 => ?_))
    ·
     dsimp only [cmpP] at h42
     refine O_nil (T_kp [0, 1, 5, 6, 7, 9, 10, 42] rfl ?_)
     refine T_condT rfl (T_skip ?_)
     refine T_seq (T_block (T_drawS [0, 1, 2, 3, 4, 5, 6, 7, 8, 9, 10, 11, 12, 13, 14] hs (by kernel_rfl) ?_))
     replace hs := hs.drew
     refine A_take 0 rfl (by kernel_rfl) rfl hs (Y_move rfl ?_)
     refine A_take 1 rfl (by kernel_rfl) rfl hs (Y_move rfl ?_)
     refine A_take 2 rfl (by kernel_rfl) rfl hs (Y_idxRow (i) Tryz.underlying81 Tryz.sizeOf75 rfl rfl rfl (by omega) ?_)
     refine A_take 3 rfl (by kernel_rfl) rfl hs (Y_ldRow 1 rfl Tryz.isAgg75 rfl (map_rowAd (by omega)) ?_)
     refine A_take 4 rfl (by kernel_rfl) rfl hs (Y_move rfl ?_)
     refine A_take 5 rfl (by kernel_rfl) rfl hs (Y_move rfl ?_)
     refine A_take 6 rfl (by kernel_rfl) rfl hs (Y_move rfl ?_)
     refine A_take 7 rfl (by kernel_rfl) rfl hs (Y_idxS hx k Tryz.underlying24 Tryz.sizeOf42 rfl rfl rfl (by omega) fun p52 c52 hp52 hc52 hR52 => ?_)
     obtain ⟨rfl, hco⟩ := hR52
     obtain ⟨nk, hnk⟩ : ∃ n, n = l[k] := ⟨_, rfl⟩
     rw [← hnk] at hp52 hco
     obtain ⟨kd, cc, ll, rr, mn, mx⟩ := nk
     obtain ⟨c0, c1, c2, c3, rfl⟩ := four_of hco.1
     refine A_take 8 rfl (by kernel_rfl) rfl hs (Y_ldAG (vs := [.int .i64 kd, u64V c0, u64V c1, u64V c2, u64V c3, .int .i64 ll, .int .i64 rr, .int .i64 mn, .int .i64 mx]) Tryz.isAgg42 Tryz.sizeOf42 rfl hp52 rfl ?_)
     refine A_take 9 rfl (by kernel_rfl) rfl hs (Y_move rfl ?_)
     refine A_take 10 rfl (by kernel_rfl) rfl hs (Y_move rfl ?_)
     refine A_take 11 rfl (by kernel_rfl) rfl hs (Y_move rfl ?_)
     refine A_take 12 rfl (by kernel_rfl) rfl hs (Y_move rfl ?_)
     have hle := hs.le
     refine A_only 13 rfl (by kernel_rfl) rfl (S_call (H1 := [_]) hs rfl Tryz.func67 rfl (by kernel_rfl) (rent_ok (us := us) (k := k) (i := i) (j := j) he (by omega) hnk hus hul hw (by omega) (by omega) hb hl) fun v5 G' H' _ hR hG58 hs => ?_)
     obtain ⟨rfl, rfl⟩ := hR
     replace hs : St _ _ (_ :: _ :: _) _ := hs
     replace hx := hx.mono hG58
     replace hw := hw.mono hG58
     replace hus := hus.mono hG58
     refine A_moreS hs hle hG58 (List.Sublist.refl _) ?_
     refine A_take 14 rfl (by kernel_rfl) rfl hs (Y_idxRow (j) Tryz.underlying75 Tryz.sizeOf4 rfl rfl rfl (by omega) ?_)
     refine A_tailN 15 rfl (by kernel_rfl) (by kernel_rfl) rfl (S_stTail (F := eK l b k) hs Tryz.sizeOf4 (by omega) (by omega) (by omega) rfl rfl rfl fun _ hs => ?_)
     refine A_done (by kernel_rfl) (T_kp [0, 1, 5, 6, 7, 9, 10] rfl ?_)
     refine T_region rfl ?_
     refine O_m rfl ?_
     refine O_y hs (Y_add (c := ((j + 1 : Nat) : Int)) rfl rfl (by omega) (by omega) ?_)
     refine O_a rfl ?_
     refine O_nil ⟨_, ?_, [(0, _), (1, _), (5, _), (6, _), (7, _), (9, _), (10, _)], ⟨rfl, rfl, rfl, rfl, rfl, rfl, rfl, trivial⟩, ⟨j + 1, _, by omega, by omega, hus, rfl, rfl, hs⟩⟩
     omega
    ·
     dsimp only [cmpP] at h42
     refine O_nil (T_kp [0, 1, 5, 6, 7, 9, 10, 42] rfl ?_)
     refine T_condF rfl (T_exit ?_)
     obtain rfl : j = b.length + 1 := by omega
     rw [stM_row] at hs
     refine T_region rfl ?_
     refine O_m rfl ?_
     refine O_y hs (Y_add (c := ((i + 1 : Nat) : Int)) rfl rfl (by omega) (by omega) ?_)
     refine O_a rfl ?_
     refine O_nil ⟨_, ?_, [(0, _), (1, _), (5, _), (6, _), (7, _), (9, _)], ⟨rfl, rfl, rfl, rfl, rfl, rfl, trivial⟩, ⟨i + 1, _, by omega, hus, rfl, rfl, hs⟩⟩
     omega
   ·
    dsimp only [cmpP] at h35
    refine O_nil (T_kp [0, 1, 5, 6, 7, 9, 35] rfl ?_)
    refine T_condF rfl (T_exit ?_)
    obtain rfl : i = b.length + 1 := by omega
    rw [stM_end] at hs
    obtain ⟨_, hGz, hrw, hs⟩ := St.fixTail noMb bs _ _ (by rw [rowsL_len]; exact hbl) rowsL_row hs
    replace hx := hx.mono hGz
    replace hw := hw.mono hGz
    replace hus := hus.mono hGz
    have hs := hs.f1
    obtain ⟨_, hGz, hft, hs⟩ := hs.fixRow noM
    replace hx := hx.mono hGz
    replace hw := hw.mono hGz
    replace hus := hus.mono hGz
    replace hrw := hrw.mono hGz
    have hMt := Mat.of hft (by rw [List.length_map]) hrw
    refine T_seq (T_seq (T_region rfl ?_))
    refine O_m rfl ?_
    refine O_m rfl ?_
    refine O_y hs (Y_idxS hx k Tryz.underlying24 Tryz.sizeOf42 rfl rfl rfl (by omega) fun p62 c62 hp62 hc62 hR62 => ?_)
    refine O_y hs (Y_fieldAddrP FO42_0 rfl ?_)
    refine O_y hs (Y_ldG Tryz.isAgg3 rfl (hp62 0 (.int .i64 (l[k]'(by omega)).kind) (by rw [hR62.1]; rfl)) ?_)
    refine O_y hs (Y_cmpS rfl rfl rfl (fun h65 => ?_) (fun h65 => ?_))
    ·
     dsimp only [cmpP] at h65
     refine O_nil (T_kp [0, 1, 5, 6, 7, 65] rfl ?_)
     obtain ⟨nk, hnk⟩ : ∃ n, n = l[k] := ⟨_, rfl⟩
     have hne := err_at (l := l) 0 he k (by omega) (Nat.zero_le _)
     have h8 := h65
     rw [← hnk] at hne h8
     obtain ⟨kd, cc, ll, rr, mi, mx⟩ := nk
     dsimp only at h8
     have hrg := rep_rng hne h8
     dsimp only at hrg
     have ha := arF_1 (k := kd) (by omega)
     have hl12 := ops_l (nodeE_ops hne) (by dsimp only; omega)
     dsimp only at hl12
     obtain ⟨L, rfl⟩ : ∃ L : Nat, ll = (L : Int) := Int.eq_ofNat_of_zero_le hl12.1
     obtain ⟨mn, rfl⟩ : ∃ q : Nat, mi = (q : Int) := Int.eq_ofNat_of_zero_le hrg.1
     obtain ⟨bO, cO, rfl, _⟩ := hs.rowForm 0 rfl (by omega)
     refine T_condT rfl (T_drawS [0, 1, 2, 3, 4, 5, 6, 7, 8, 9, 10, 11, 12, 13, 14, 15] hs (by kernel_rfl) ?_)
     replace hs := hs.drew
     refine A_take 0 rfl (by kernel_rfl) rfl hs (Y_move rfl ?_)
     refine A_take 1 rfl (by kernel_rfl) rfl hs (Y_move rfl ?_)
     refine A_take 2 rfl (by kernel_rfl) rfl hs (Y_idxS hx k Tryz.underlying24 Tryz.sizeOf42 rfl rfl rfl (by omega) fun p68 c68 hp68 hc68 hR68 => ?_)
     obtain ⟨hcc, hco⟩ := hR68
     rw [← hnk] at hcc hco
     subst hcc
     obtain ⟨c0, c1, c2, c3, rfl⟩ := four_of hco.1
     refine A_take 3 rfl (by kernel_rfl) rfl hs (Y_ldAG (vs := [.int .i64 kd, u64V c0, u64V c1, u64V c2, u64V c3, .int .i64 (L : Int), .int .i64 rr, .int .i64 (mn : Int), .int .i64 mx]) Tryz.isAgg42 Tryz.sizeOf42 rfl hp68 rfl ?_)
     refine A_take 4 rfl (by kernel_rfl) rfl hs (Y_move rfl ?_)
     refine A_take 5 rfl (by kernel_rfl) rfl hs (Y_move rfl ?_)
     refine A_take 6 rfl (by kernel_rfl) rfl hs (Y_move rfl ?_)
     refine A_take 7 rfl (by kernel_rfl) rfl hs (Y_idxS hx k Tryz.underlying24 Tryz.sizeOf42 rfl rfl rfl (by omega) fun p73 c73 hp73 hc73 hR73 => ?_)
     refine A_take 8 rfl (by kernel_rfl) rfl hs (Y_fieldAddrP FO42_2 rfl ?_)
     refine A_take 9 rfl (by kernel_rfl) rfl hs (Y_ldG Tryz.isAgg3 rfl (hp73 5 (.int .i64 (L : Int)) (by rw [hR73.1, ← hnk]; rfl)) ?_)
     refine A_take 10 rfl (by kernel_rfl) rfl hs (Y_idxRow (L) Tryz.underlying79 Tryz.sizeOf81 rfl rfl rfl (by omega) ?_)
     refine A_take 11 rfl (by kernel_rfl) rfl hs (Y_ldRow 0 rfl Tryz.isAgg81 rfl (List.getElem?_eq_getElem (by omega)) ?_)
     refine A_take 12 rfl (by kernel_rfl) rfl hs (Y_move rfl ?_)
     refine A_take 13 rfl (by kernel_rfl) rfl hs (Y_len Tryz.underlying30 rfl ?_)
     have hle := hs.le
     refine A_only 14 rfl (by kernel_rfl) rfl (S_call (H1 := []) hs rfl Tryz.func68 rfl (by kernel_rfl) (rrep_ok (mn := mn) (mx := mx) (hus L (by omega)) hb (by omega) (by omega) (by omega)) fun v6 G' H' _ hR hG80 hs => ?_)
     obtain ⟨rfl, hMr⟩ := hR
     replace hs : St _ _ [_] _ := hs
     replace hx := hx.mono hG80
     replace hw := hw.mono hG80
     replace hus := hus.mono hG80
     replace hrw := hrw.mono hG80
     replace hMt := hMt.mono hG80
     obtain ⟨Ar, cr, rfl⟩ := LstR.slice hMr
     refine A_moreS hs hle hG80 (List.Sublist.refl _) ?_
     refine A_take 15 rfl (by kernel_rfl) rfl hs (Y_assign rfl ?_)
     refine A_done (by kernel_rfl) (T_kp [0, 1, 5, 6, 7] rfl ?_)
     have hMk := hMr.congr (M' := eN l b k) (fun i j hi _ => by have := rep_eq he (show k < l.length by omega) h65 (j := j) hi; rw [← hnk] at this; exact this)
     refine T_region rfl ?_
     refine O_m rfl ?_
     refine O_m rfl ?_
     refine O_s (S_lit hs Tryz.underlying79 Tryz.sizeOf81 Tryz.zeroValue81 rfl rfl (by decide) (by decide) rfl (cs := [_]) rfl rfl fun v7 _ hs _ => ?_)
     obtain ⟨_, hG83, hl83, hs⟩ := hs.fixRow noM
     replace hx := hx.mono hG83
     replace hw := hw.mono hG83
     replace hus := hus.mono hG83
     replace hrw := hrw.mono hG83
     replace hMt := hMt.mono hG83
     replace hMr := hMr.mono hG83
     replace hMk := hMk.mono hG83
     refine O_s (S_append hs Tryz.underlying79 TI81 rfl (by decide) rfl rfl (hl83) (one1 rfl) (by omega) (by omega) fun v8 _ hs => ?_)
     refine O_a rfl ?_
     refine O_nil (T_kp [0, 1, 5, 6] rfl ?_)
     refine T_region rfl ?_
     refine O_m rfl ?_
     refine O_y hs (Y_add (c := ((k + 1 : Nat) : Int)) rfl rfl (by omega) (by omega) ?_)
     refine O_a rfl ?_
     refine O_nil ⟨_, ?_, [(0, _), (1, _), (5, _), (6, _)], ⟨rfl, rfl, rfl, rfl, trivial⟩, ⟨k + 1, us ++ [_], v8, _, by rw [List.length_append, hul]; rfl, by omega, hus.push hMk hul, rfl, rfl, by rw [List.length_append]; exact hs⟩⟩
     omega
    ·
     dsimp only [cmpP] at h65
     refine O_nil (T_kp [0, 1, 5, 6, 7, 65] rfl ?_)
     refine T_condF rfl (T_skip ?_)
     have hMk := hMt.congr (M' := eN l b k) (fun i j _ _ => eK_n (by omega) h65)
     refine T_region rfl ?_
     refine O_m rfl ?_
     refine O_m rfl ?_
     refine O_s (S_lit hs Tryz.underlying79 Tryz.sizeOf81 Tryz.zeroValue81 rfl rfl (by decide) (by decide) rfl (cs := [_]) rfl rfl fun v9 _ hs _ => ?_)
     obtain ⟨_, hG83, hl83, hs⟩ := hs.fixRow noM
     replace hx := hx.mono hG83
     replace hw := hw.mono hG83
     replace hus := hus.mono hG83
     replace hrw := hrw.mono hG83
     replace hMt := hMt.mono hG83
     replace hMk := hMk.mono hG83
     refine O_s (S_append hs Tryz.underlying79 TI81 rfl (by decide) rfl rfl (hl83) (one1 rfl) (by omega) (by omega) fun v10 _ hs => ?_)
     refine O_a rfl ?_
     refine O_nil (T_kp [0, 1, 5, 6] rfl ?_)
     refine T_region rfl ?_
     refine O_m rfl ?_
     refine O_y hs (Y_add (c := ((k + 1 : Nat) : Int)) rfl rfl (by omega) (by omega) ?_)
     refine O_a rfl ?_
     refine O_nil ⟨_, ?_, [(0, _), (1, _), (5, _), (6, _)], ⟨rfl, rfl, rfl, rfl, trivial⟩, ⟨k + 1, us ++ [_], v10, _, by rw [List.length_append, hul]; rfl, by omega, hus.push hMk hul, rfl, rfl, by rw [List.length_append]; exact hs⟩⟩
     omega
 ·
  dsimp only [cmpP] at h15
  refine O_nil (T_kp [0, 1, 5, 6, 15] rfl ?_)
  refine T_condF rfl (T_exit ?_)
  refine T_seq (T_region rfl ?_)
  refine O_m rfl ?_
  refine O_a rfl ?_
  refine O_nil (T_kp [4] rfl ?_)
  refine T_ret ?_
  refine Rt_fin (vs := [_]) Tryz.results47 rfl ⟨rfl, trivial⟩ ?_
  try dsimp only [tup]
  obtain rfl : k = l.length := by omega
  exact ⟨_, _, hs, us, hul, hus, rfl⟩

set_option maxHeartbeats 400000 in
set_option maxRecDepth 10000 in
theorem rmatch_ok {G : Ghost} {v wv : Value} {l : List NodeV} {b : List UInt8} (hx : Rx G v l) (hw : Bytes G wv b) (hl : l.length ≤ 1000000000) (hbl : b.length ≤ 1000) :
  FnOk Tryz.prog 28 [v, wv] G [] fun r _ H' => H' = [] ∧ r = .bool (matchF l b) := by
 obtain ⟨A, cap, rfl⟩ := LstR.slice hx
 obtain ⟨Aw, cw, rfl, _⟩ := id hw
 refine FnOk.of_T [(0, _), (1, _)] Tryz.func28 rfl Tryz.ntmps28 (by simp) rfl fun w0 hs => ?_
 have hx0 := hx
 have hw0 := hw
 refine T_seq (T_region rfl ?_)
 refine O_a rfl ?_
 refine O_nil (T_kp [0, 1] rfl ?_)
 refine T_seq (T_seq (T_region rfl ?_))
 refine O_m rfl ?_
 refine O_s (S_call (H1 := []) hs rfl Tryz.func25 rfl (by kernel_rfl) (rvalid_ok hx hl) fun v1 G' H' _ hR hG7 hs => ?_)
 obtain ⟨rfl, rfl⟩ := hR
 replace hs : St _ _ [] _ := hs
 replace hx := hx.mono hG7
 replace hw := hw.mono hG7
 refine O_y hs (Y_cmpS rfl rfl rfl (fun h8 => ?_) (fun h8 => ?_))
 ·
  dsimp only [cmpP] at h8
  refine O_nil (T_kp [0, 1, 8] rfl ?_)
  refine T_condT rfl (T_seq (T_region rfl ?_))
  refine O_a rfl ?_
  refine O_nil (T_kp [4] rfl ?_)
  refine T_ret ?_
  refine Rt_fin (vs := [_]) Tryz.results28 rfl ⟨rfl, trivial⟩ ?_
  try dsimp only [tup]
  exact ⟨_, [], hs.done, rfl, by unfold matchF; rw [if_neg (by omega)]⟩
 ·
  dsimp only [cmpP] at h8
  refine O_nil (T_kp [0, 1, 8] rfl ?_)
  refine T_condF rfl (T_skip ?_)
  have hv0 : validF l = 0 := by omega
  have hv1 := ones_of hv0
  refine T_seq (T_region rfl ?_)
  refine O_m rfl ?_
  refine O_m rfl ?_
  refine O_s (S_call (H1 := []) hs rfl Tryz.func47 rfl (by kernel_rfl) (rtab_ok hx hw hv1.2.2.1 (by omega) hbl) fun v2 G' H' _ hR hG11 hs => ?_)
  obtain ⟨us, hul, hus, rfl⟩ := hR
  replace hs : St _ _ [_] _ := hs
  replace hx := hx.mono hG11
  replace hw := hw.mono hG11
  refine O_a rfl ?_
  refine O_nil (T_kp [0, 1, 5] rfl ?_)
  obtain ⟨bO, cO, rfl, _⟩ := hs.rowForm 0 rfl (by omega)
  have hMl := hus (l.length - 1) (by omega)
  refine T_seq (T_region rfl ?_)
  refine O_m rfl ?_
  refine O_m rfl ?_
  refine O_y hs (Y_len Tryz.underlying24 rfl ?_)
  refine O_y hs (Y_sub (c := ((l.length - 1 : Nat) : Int)) rfl rfl (by omega) (by omega) ?_)
  refine O_y hs (Y_idxRow ((l.length - 1)) Tryz.underlying79 Tryz.sizeOf81 rfl rfl rfl (by omega) ?_)
  refine O_y hs (Y_ldRow 0 rfl Tryz.isAgg81 rfl (List.getElem?_eq_getElem (by omega)) ?_)
  refine O_y hs (Y_idxS hMl 0 Tryz.underlying81 Tryz.sizeOf75 rfl rfl rfl (by rw [rowsL_len]; omega) fun p18 c18 hp18 hc18 hR18 => ?_)
  obtain ⟨u18, rfl, hb18⟩ := hR18
  rw [rowsL_get] at hb18
  refine O_y hs (Y_ldG Tryz.isAgg75 rfl (gcell_0 (hp18 0 _ rfl)) ?_)
  refine O_m rfl ?_
  refine O_y hs (Y_len Tryz.underlying30 rfl ?_)
  refine O_y hs (Y_idx1 (b.length) Tryz.underlying75 Tryz.sizeOf4 hb18 rfl rfl rfl (rowV_at (by omega)) fun p22 hp22 => ?_)
  refine O_y hs (Y_ldG Tryz.isAgg4 rfl (hp22) ?_)
  refine O_a rfl ?_
  refine O_nil (T_kp [4] rfl ?_)
  refine T_ret ?_
  refine Rt_fin (vs := [_]) Tryz.results28 rfl ⟨rfl, trivial⟩ ?_
  try dsimp only [tup]
  exact ⟨_, [], hs.done, rfl, by unfold matchF; rw [if_pos hv0]; rfl⟩

set_option maxHeartbeats 400000 in
set_option maxRecDepth 10000 in
theorem rnull_ok {G : Ghost} {v : Value} {l : List NodeV} (hx : Rx G v l) (hl : l.length ≤ 1000000000) :
  FnOk Tryz.prog 27 [v] G [] fun r _ H' => H' = [] ∧ r = .bool (matchF l []) := by
 refine FnOk.of_T [(0, _)] Tryz.func27 rfl Tryz.ntmps27 (by simp) rfl fun w0 hs => ?_
 have hx0 := hx
 refine T_seq (T_region rfl ?_)
 refine O_a rfl ?_
 refine O_nil (T_kp [0] rfl ?_)
 refine T_seq (T_region rfl ?_)
 refine O_m rfl ?_
 refine O_s (S_call (H1 := []) hs rfl Tryz.func28 rfl (by kernel_rfl) (rmatch_ok hx (show Bytes _ _ [] from Sl.nil _ _) hl (by simp)) fun v1 G' H' _ hR hG4 hs => ?_)
 obtain ⟨rfl, rfl⟩ := hR
 replace hs : St _ _ [] _ := hs
 replace hx := hx.mono hG4
 refine O_a rfl ?_
 refine O_nil (T_kp [2] rfl ?_)
 refine T_ret ?_
 refine Rt_fin (vs := [_]) Tryz.results27 rfl ⟨rfl, trivial⟩ ?_
 try dsimp only [tup]
 exact ⟨_, [], hs.done, rfl, rfl⟩

set_option maxHeartbeats 400000 in
set_option maxRecDepth 10000 in
theorem small_ok {G : Ghost} {v : Value} {b : List UInt8} {n : Nat} (hb : Bytes G v b) :
  FnOk Tryz.prog 19 [v, .int .i64 (n : Int)] G [] fun r G' H' => H' = [] ∧ Bytes G' r (b.take n) := by
 obtain ⟨A, cap, rfl, _⟩ := id hb
 refine FnOk.of_T [(0, _), (1, _)] Tryz.func19 rfl Tryz.ntmps19 (by simp) rfl fun w0 hs => ?_
 have hb0 := hb
 refine T_seq (T_region rfl ?_)
 refine O_a rfl ?_
 refine O_nil (T_kp [0, 1] rfl ?_)
 refine T_seq (T_region rfl ?_)
 refine O_m rfl ?_
 refine O_m rfl ?_
 refine O_y hs (Y_len Tryz.underlying30 rfl ?_)
 refine O_m rfl ?_
 refine O_y hs (Y_min (c := ((min b.length n : Nat) : Int)) rfl rfl (by omega) ?_)
 refine O_y hs (Y_sliceB hb 0 (min b.length n) Tryz.underlying30 Tryz.sizeOf5 rfl rfl ⟨_, _, rfl, rfl⟩ (by omega) (by omega) fun s10 hs10 => ?_)
 obtain ⟨A10, c10, rfl, _⟩ := id hs10
 refine O_a rfl ?_
 refine O_nil (T_kp [4] rfl ?_)
 refine T_ret ?_
 refine Rt_fin (vs := [_]) Tryz.results19 rfl ⟨rfl, trivial⟩ ?_
 try dsimp only [tup]
 exact ⟨_, [], hs.done, rfl, by rw [show b.take n = (b.drop 0).take (min b.length n - 0) by rw [List.drop_zero, List.take_eq_take_iff]; omega]; exact hs10⟩

end Go.Proofs.YtkmgbcjfidpmgaaGreatDoor
