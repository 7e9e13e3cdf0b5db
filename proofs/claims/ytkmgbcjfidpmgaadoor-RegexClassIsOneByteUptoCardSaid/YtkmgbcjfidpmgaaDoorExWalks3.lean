import Derived.Test.YtkmgbcjfidpmgaaDoorExWalks2
import Derived.Test.YtkmgbcjfidpmgaaDoorProg
import Derived.Test.YtkmgbcjfidpmgaaDoorSame
import Derived.Test.YtkmgbcjfidpmgaaDoorExKeys
import Derived.Test.YtkmgbcjfidpmgaaDoorShelf
namespace Go.Proofs.YtkmgbcjfidpmgaaDoor
open Go Go.Ex Go.RowKit
theorem FO28_0 : fieldOff Tryd.prog 28 0 = some 0 := by kernel_rfl
theorem FO28_1 : fieldOff Tryd.prog 28 1 = some 1 := by kernel_rfl
theorem FO28_2 : fieldOff Tryd.prog 28 2 = some 5 := by kernel_rfl
theorem FO28_3 : fieldOff Tryd.prog 28 3 = some 6 := by kernel_rfl
theorem TI3 : TI Tryd.prog 3 (.int .i64 0) 1 8 := TI.of (by kernel_rfl)

set_option maxHeartbeats 400000 in
set_option maxRecDepth 10000 in
theorem ari_ok {G : Ghost} {k : Int} :
    FnOk Tryd.prog 15 [.int .i64 k] G [] fun r _ H' => H' = [] ∧ r = .int .i64 ((arF k : Nat) : Int) := by
  refine FnOk.of_T [(0, _)] Tryd.func15 rfl Tryd.ntmps15 (by simp) rfl fun w0 hs => ?_
  refine T_seq (T_region rfl ?_)
  refine O_y hs (Y_assign rfl ?_)
  refine O_nil (T_sub [(0, _)] ⟨rfl, trivial⟩ ?_)
  refine T_seq (T_seq (T_region rfl ?_))
  refine O_y hs (Y_move rfl ?_)
  refine O_nil (T_sub [(3, _)] ⟨rfl, trivial⟩ ?_)
  refine T_block (T_seq (T_seq (T_region rfl ?_)))
  refine O_y hs (Y_cmpS rfl rfl rfl (fun h5 => ?_) (fun h5 => ?_))
  · -- h5: True
    dsimp only [cmpP] at h5
    refine O_y hs (Y_assign rfl ?_)
    refine O_nil (T_sub [(3, _), (4, _)] ⟨rfl, rfl, trivial⟩ ?_)
    refine T_condT rfl (T_skip ?_)
    refine T_condT rfl (T_seq (T_region rfl ?_))
    refine O_y hs (Y_assign rfl ?_)
    refine O_nil (T_sub [(2, _)] ⟨rfl, trivial⟩ ?_)
    refine T_ret ?_
    refine Rt_fin (vs := [_]) Tryd.results15 rfl ⟨rfl, trivial⟩ ?_
    try dsimp only [tup]
    exact ⟨_, [], hs.done, rfl, by rw [arF_2 (by omega)]; rfl⟩
  · -- h5: False
    dsimp only [cmpP] at h5
    refine O_y hs (Y_assign rfl ?_)
    refine O_nil (T_sub [(3, _), (4, _)] ⟨rfl, rfl, trivial⟩ ?_)
    refine T_condF rfl (T_seq (T_region rfl ?_))
    refine O_y hs (Y_cmpS rfl rfl rfl (fun h6 => ?_) (fun h6 => ?_))
    · -- h6: True
      dsimp only [cmpP] at h6
      refine O_y hs (Y_assign rfl ?_)
      refine O_nil (T_sub [(3, _), (4, _)] ⟨rfl, rfl, trivial⟩ ?_)
      refine T_condT rfl (T_skip ?_)
      refine T_condT rfl (T_seq (T_region rfl ?_))
      refine O_y hs (Y_assign rfl ?_)
      refine O_nil (T_sub [(2, _)] ⟨rfl, trivial⟩ ?_)
      refine T_ret ?_
      refine Rt_fin (vs := [_]) Tryd.results15 rfl ⟨rfl, trivial⟩ ?_
      try dsimp only [tup]
      exact ⟨_, [], hs.done, rfl, by rw [arF_2 (by omega)]; rfl⟩
    · -- h6: False
      dsimp only [cmpP] at h6
      refine O_y hs (Y_assign rfl ?_)
      refine O_nil (T_sub [(3, _), (4, _)] ⟨rfl, rfl, trivial⟩ ?_)
      refine T_condF rfl (T_region rfl ?_)
      refine O_y hs (Y_cmpS rfl rfl rfl (fun h7 => ?_) (fun h7 => ?_))
      · -- h7: True
        dsimp only [cmpP] at h7
        refine O_y hs (Y_assign rfl ?_)
        refine O_nil (T_sub [(3, _), (4, _)] ⟨rfl, rfl, trivial⟩ ?_)
        refine T_condT rfl (T_seq (T_region rfl ?_))
        refine O_y hs (Y_assign rfl ?_)
        refine O_nil (T_sub [(2, _)] ⟨rfl, trivial⟩ ?_)
        refine T_ret ?_
        refine Rt_fin (vs := [_]) Tryd.results15 rfl ⟨rfl, trivial⟩ ?_
        try dsimp only [tup]
        exact ⟨_, [], hs.done, rfl, by rw [arF_2 (by omega)]; rfl⟩
      · -- h7: False
        dsimp only [cmpP] at h7
        refine O_y hs (Y_assign rfl ?_)
        refine O_nil (T_sub [(3, _), (4, _)] ⟨rfl, rfl, trivial⟩ ?_)
        refine T_condF rfl (T_seq (T_seq (T_region rfl ?_)))
        refine O_y hs (Y_cmpS rfl rfl rfl (fun h9 => ?_) (fun h9 => ?_))
        · -- h9: True
          dsimp only [cmpP] at h9
          refine O_y hs (Y_assign rfl ?_)
          refine O_nil (T_sub [(3, _), (8, _)] ⟨rfl, rfl, trivial⟩ ?_)
          refine T_condT rfl (T_skip ?_)
          refine T_condT rfl (T_seq (T_region rfl ?_))
          refine O_y hs (Y_assign rfl ?_)
          refine O_nil (T_sub [(2, _)] ⟨rfl, trivial⟩ ?_)
          refine T_ret ?_
          refine Rt_fin (vs := [_]) Tryd.results15 rfl ⟨rfl, trivial⟩ ?_
          try dsimp only [tup]
          exact ⟨_, [], hs.done, rfl, by rw [arF_1 (by omega)]; rfl⟩
        · -- h9: False
          dsimp only [cmpP] at h9
          refine O_y hs (Y_assign rfl ?_)
          refine O_nil (T_sub [(3, _), (8, _)] ⟨rfl, rfl, trivial⟩ ?_)
          refine T_condF rfl (T_region rfl ?_)
          refine O_y hs (Y_cmpS rfl rfl rfl (fun h10 => ?_) (fun h10 => ?_))
          · -- h10: True
            dsimp only [cmpP] at h10
            refine O_y hs (Y_assign rfl ?_)
            refine O_nil (T_sub [(8, _)] ⟨rfl, trivial⟩ ?_)
            refine T_condT rfl (T_seq (T_region rfl ?_))
            refine O_y hs (Y_assign rfl ?_)
            refine O_nil (T_sub [(2, _)] ⟨rfl, trivial⟩ ?_)
            refine T_ret ?_
            refine Rt_fin (vs := [_]) Tryd.results15 rfl ⟨rfl, trivial⟩ ?_
            try dsimp only [tup]
            exact ⟨_, [], hs.done, rfl, by rw [arF_1 (by omega)]; rfl⟩
          · -- h10: False
            dsimp only [cmpP] at h10
            refine O_y hs (Y_assign rfl ?_)
            refine O_nil (T_sub [(8, _)] ⟨rfl, trivial⟩ ?_)
            refine T_condF rfl (T_skip ?_)
            refine T_seq (T_region rfl ?_)
            refine O_y hs (Y_assign rfl ?_)
            refine O_nil (T_sub [(2, _)] ⟨rfl, trivial⟩ ?_)
            refine T_ret ?_
            refine Rt_fin (vs := [_]) Tryd.results15 rfl ⟨rfl, trivial⟩ ?_
            try dsimp only [tup]
            exact ⟨_, [], hs.done, rfl, by rw [arF_0 (by omega) (by omega)]; rfl⟩

set_option maxHeartbeats 400000 in
set_option maxRecDepth 10000 in
theorem in_ok {G : Ghost} {x : Int} {i p : Nat} :
    FnOk Tryd.prog 24 [.int .i64 x, .pointer (some ⟨p, 0, none⟩)] G [.blk p 3 [.int .i64 (i : Int)]] fun r _ H' => H' = [.blk p 3 [.int .i64 (i : Int)]] ∧ r = .bool (decide (0 ≤ x ∧ x < (i : Int))) := by
  refine FnOk.of_T [(0, _), (1, _)] Tryd.func24 rfl Tryd.ntmps24 (by simp) rfl fun w0 hs => ?_
  refine T_seq (T_region rfl ?_)
  refine O_y hs (Y_assign rfl ?_)
  refine O_nil (T_sub [(0, _), (1, _)] ⟨rfl, rfl, trivial⟩ ?_)
  refine T_seq (T_region rfl ?_)
  refine O_y hs (Y_move rfl ?_)
  refine O_y hs (Y_cmpS rfl rfl rfl (fun h5 => ?_) (fun h5 => ?_))
  · -- h5: True
    dsimp only [cmpP] at h5
    refine O_y hs (Y_move rfl ?_)
    refine O_yy 6 hs rfl rfl (Y_move rfl ?_)
    refine O_yy 6 hs rfl rfl (Y_ld 0 Tryd.isAgg3 rfl rfl rfl ?_)
    refine O_yy 6 hs rfl rfl (Y_cmpS rfl rfl rfl (fun h9 => ?_) (fun h9 => ?_))
    · -- h9: True
      dsimp only [cmpP] at h9
      refine O_y hs (Y_pickT rfl rfl ?_)
      refine O_y hs (Y_assign rfl ?_)
      refine O_nil (T_sub [(3, _)] ⟨rfl, trivial⟩ ?_)
      refine T_ret ?_
      refine Rt_fin (vs := [_]) Tryd.results24 rfl ⟨rfl, trivial⟩ ?_
      try dsimp only [tup]
      exact ⟨_, _, hs, rfl, congrArg Value.bool (decide_eq_true (by omega)).symm⟩
    · -- h9: False
      dsimp only [cmpP] at h9
      refine O_y hs (Y_pickT rfl rfl ?_)
      refine O_y hs (Y_assign rfl ?_)
      refine O_nil (T_sub [(3, _)] ⟨rfl, trivial⟩ ?_)
      refine T_ret ?_
      refine Rt_fin (vs := [_]) Tryd.results24 rfl ⟨rfl, trivial⟩ ?_
      try dsimp only [tup]
      exact ⟨_, _, hs, rfl, congrArg Value.bool (decide_eq_false (by omega)).symm⟩
  · -- h5: False
    dsimp only [cmpP] at h5
    refine O_y hs (Y_move rfl ?_)
    refine O_no 6 rfl rfl ?_
    refine O_no 6 rfl rfl ?_
    refine O_no 6 rfl rfl ?_
    refine O_y hs (Y_pickF rfl rfl ?_)
    refine O_y hs (Y_assign rfl ?_)
    refine O_nil (T_sub [(3, _)] ⟨rfl, trivial⟩ ?_)
    refine T_ret ?_
    refine Rt_fin (vs := [_]) Tryd.results24 rfl ⟨rfl, trivial⟩ ?_
    try dsimp only [tup]
    exact ⟨_, _, hs, rfl, congrArg Value.bool (decide_eq_false (by omega)).symm⟩

set_option maxHeartbeats 2000000 in
set_option maxRecDepth 10000 in
theorem chk_ok {G : Ghost} {n : NodeV} {i : Nat} (hc : ClsOk n.c) :
    FnOk Tryd.prog 14 [.agg (nodeC n).toArray, .int .i64 (i : Int)] G [] fun r _ H' => H' = [] ∧ r = .int .i64 (nodeE n i) := by
  obtain ⟨kd, c, ll, rr, mn, mx⟩ := n
  obtain ⟨c0, c1, c2, c3, rfl⟩ := four_of hc.1
  show FnOk Tryd.prog 14 [.agg #[.int .i64 kd, u64V c0, u64V c1, u64V c2, u64V c3, .int .i64 ll, .int .i64 rr, .int .i64 mn, .int .i64 mx], .int .i64 (i : Int)] G [] _
  refine FnOk.of_T [(0, _), (1, _)] Tryd.func14 rfl Tryd.ntmps14 (by simp) rfl fun w0 hs => ?_
  refine T_seq (T_region rfl ?_)
  refine O_s (S_box hs rfl (cs := [_, _, _, _, _, _, _, _, _]) rfl fun b2 _ hs => ?_)
  refine O_s (S_box hs rfl (cs := [_]) rfl fun b3 _ hs => ?_)
  refine O_y hs (Y_assign rfl ?_)
  refine O_nil (T_sub [(2, _), (3, _)] ⟨rfl, rfl, trivial⟩ ?_)
  refine T_seq (T_seq (T_region rfl ?_))
  refine O_y hs (Y_fieldAddr FO28_0 rfl (m := 0) rfl ?_)
  refine O_y hs (Y_ld 1 Tryd.isAgg3 rfl rfl rfl ?_)
  refine O_y hs (Y_cmpS rfl rfl rfl (fun h9 => ?_) (fun h9 => ?_))
  · -- h9: True
    dsimp only [cmpP] at h9
    refine O_y hs (Y_move rfl ?_)
    refine O_no 10 rfl rfl ?_
    refine O_no 10 rfl rfl ?_
    refine O_no 10 rfl rfl ?_
    refine O_y hs (Y_pickT rfl rfl ?_)
    refine O_nil (T_sub [(2, _), (3, _), (14, _)] ⟨rfl, rfl, rfl, trivial⟩ ?_)
    refine T_condT rfl (T_seq (T_region rfl ?_))
    refine O_y hs (Y_assign rfl ?_)
    refine O_nil (T_sub [(4, _)] ⟨rfl, trivial⟩ ?_)
    refine T_ret ?_
    refine Rt_fin (vs := [_]) Tryd.results14 rfl ⟨rfl, trivial⟩ ?_
    try dsimp only [tup]
    unfold nodeE; rw [if_pos (by dsimp only; omega)]
    exact ⟨_, [], hs.done, rfl, rfl⟩
  · -- h9: False
    dsimp only [cmpP] at h9
    refine O_y hs (Y_move rfl ?_)
    refine O_yy 10 hs rfl rfl (Y_fieldAddr FO28_0 rfl (m := 0) rfl ?_)
    refine O_yy 10 hs rfl rfl (Y_ld 1 Tryd.isAgg3 rfl rfl rfl ?_)
    refine O_yy 10 hs rfl rfl (Y_cmpS rfl rfl rfl (fun h13 => ?_) (fun h13 => ?_))
    · -- h13: True
      dsimp only [cmpP] at h13
      refine O_y hs (Y_pickF rfl rfl ?_)
      refine O_nil (T_sub [(2, _), (3, _), (14, _)] ⟨rfl, rfl, rfl, trivial⟩ ?_)
      refine T_condT rfl (T_seq (T_region rfl ?_))
      refine O_y hs (Y_assign rfl ?_)
      refine O_nil (T_sub [(4, _)] ⟨rfl, trivial⟩ ?_)
      refine T_ret ?_
      refine Rt_fin (vs := [_]) Tryd.results14 rfl ⟨rfl, trivial⟩ ?_
      try dsimp only [tup]
      unfold nodeE; rw [if_pos (by dsimp only; omega)]
      exact ⟨_, [], hs.done, rfl, rfl⟩
    · -- h13: False
      dsimp only [cmpP] at h13
      refine O_y hs (Y_pickF rfl rfl ?_)
      refine O_nil (T_sub [(2, _), (3, _), (14, _)] ⟨rfl, rfl, rfl, trivial⟩ ?_)
      refine T_condF rfl (T_skip ?_)
      refine T_seq (T_region rfl ?_)
      refine O_y hs (Y_makeFunc (vs := [_]) rfl ?_)
      refine O_y hs (Y_assign rfl ?_)
      refine O_nil (T_sub [(2, _), (5, _)] ⟨rfl, rfl, trivial⟩ ?_)
      refine T_seq (T_region rfl ?_)
      refine O_y hs (Y_fieldAddr FO28_0 rfl (m := 0) rfl ?_)
      refine O_y hs (Y_ld 1 Tryd.isAgg3 rfl rfl rfl ?_)
      refine O_s (S_call (H1 := []) hs rfl Tryd.func15 rfl (by kernel_rfl) (ari_ok) fun v1 G' H' _ hR hG18 hs => ?_)
      obtain ⟨rfl, rfl⟩ := hR
      replace hs : St _ _ [_, _] _ := hs
      refine O_y hs (Y_assign rfl ?_)
      refine O_nil (T_sub [(2, _), (5, _), (6, _)] ⟨rfl, rfl, rfl, trivial⟩ ?_)
      refine T_seq (T_block (T_seq (T_seq (T_region rfl ?_))))
      refine O_y hs (Y_move rfl ?_)
      rcases arF_three kd with ha | ha | ha
      · -- arity 0
        refine O_y hs (Y_cmpF rfl rfl rfl (by omega) ?_)
        refine O_y hs (Y_move rfl ?_)
        refine O_no 22 rfl rfl ?_
        refine O_no 22 rfl rfl ?_
        refine O_no 22 rfl rfl ?_
        refine O_no 22 rfl rfl ?_
        refine O_no 22 rfl rfl ?_
        refine O_y hs (Y_pickF rfl rfl ?_)
        refine O_y hs (Y_assign rfl ?_)
        refine O_nil (T_sub [(2, _), (5, _), (6, _), (19, _)] ⟨rfl, rfl, rfl, rfl, trivial⟩ ?_)
        refine T_condF rfl (T_seq (T_region rfl ?_))
        refine O_y hs (Y_move rfl ?_)
        refine O_y hs (Y_cmpT rfl rfl rfl (by omega) ?_)
        refine O_y hs (Y_move rfl ?_)
        refine O_yy 31 hs rfl rfl (Y_fieldAddr FO28_2 rfl (m := 5) rfl ?_)
        refine O_yy 31 hs rfl rfl (Y_ld 1 Tryd.isAgg3 rfl rfl rfl ?_)
        refine O_yy 31 hs rfl rfl (Y_cmpS rfl rfl rfl (fun h34 => ?_) (fun h34 => ?_))
        · -- h34: True
          dsimp only [cmpP] at h34
          refine O_y hs (Y_pickT rfl rfl ?_)
          refine O_y hs (Y_assign rfl ?_)
          refine O_nil (T_sub [(2, _), (5, _), (6, _), (19, _)] ⟨rfl, rfl, rfl, rfl, trivial⟩ ?_)
          refine T_condT rfl (T_skip ?_)
          refine T_condT rfl (T_seq (T_region rfl ?_))
          refine O_y hs (Y_assign rfl ?_)
          refine O_nil (T_sub [(4, _)] ⟨rfl, trivial⟩ ?_)
          refine T_ret ?_
          refine Rt_fin (vs := [_]) Tryd.results14 rfl ⟨rfl, trivial⟩ ?_
          try dsimp only [tup]
          unfold nodeE; rw [if_neg (by dsimp only; omega)]
          rw [if_pos (fun h => by have h1 := h.1; rw [if_neg (by dsimp only; omega)] at h1; dsimp only at h1; omega)]
          exact ⟨_, [], hs.done, rfl, rfl⟩
        · -- h34: False
          dsimp only [cmpP] at h34
          refine O_y hs (Y_pickT rfl rfl ?_)
          refine O_y hs (Y_assign rfl ?_)
          refine O_nil (T_sub [(2, _), (5, _), (6, _), (19, _)] ⟨rfl, rfl, rfl, rfl, trivial⟩ ?_)
          refine T_condF rfl (T_seq (T_region rfl ?_))
          refine O_y hs (Y_move rfl ?_)
          refine O_y hs (Y_cmpF rfl rfl rfl (by omega) ?_)
          refine O_y hs (Y_move rfl ?_)
          refine O_no 38 rfl rfl ?_
          refine O_no 38 rfl rfl ?_
          refine O_no 38 rfl rfl ?_
          refine O_no 38 rfl rfl ?_
          refine O_no 38 rfl rfl ?_
          refine O_y hs (Y_pickF rfl rfl ?_)
          refine O_y hs (Y_assign rfl ?_)
          refine O_nil (T_sub [(2, _), (6, _), (19, _)] ⟨rfl, rfl, rfl, trivial⟩ ?_)
          refine T_condF rfl (T_region rfl ?_)
          refine O_y hs (Y_move rfl ?_)
          refine O_y hs (Y_cmpT rfl rfl rfl (by omega) ?_)
          refine O_y hs (Y_move rfl ?_)
          refine O_yy 47 hs rfl rfl (Y_fieldAddr FO28_3 rfl (m := 6) rfl ?_)
          refine O_yy 47 hs rfl rfl (Y_ld 1 Tryd.isAgg3 rfl rfl rfl ?_)
          refine O_yy 47 hs rfl rfl (Y_cmpS rfl rfl rfl (fun h50 => ?_) (fun h50 => ?_))
          · -- h50: True
            dsimp only [cmpP] at h50
            refine O_y hs (Y_pickT rfl rfl ?_)
            refine O_y hs (Y_assign rfl ?_)
            refine O_nil (T_sub [(2, _), (19, _)] ⟨rfl, rfl, trivial⟩ ?_)
            refine T_condT rfl (T_seq (T_region rfl ?_))
            refine O_y hs (Y_assign rfl ?_)
            refine O_nil (T_sub [(4, _)] ⟨rfl, trivial⟩ ?_)
            refine T_ret ?_
            refine Rt_fin (vs := [_]) Tryd.results14 rfl ⟨rfl, trivial⟩ ?_
            try dsimp only [tup]
            unfold nodeE; rw [if_neg (by dsimp only; omega)]
            rw [if_pos (fun h => by have h1 := h.2; rw [if_neg (by dsimp only; omega)] at h1; dsimp only at h1; omega)]
            exact ⟨_, [], hs.done, rfl, rfl⟩
          · -- h50: False
            dsimp only [cmpP] at h50
            refine O_y hs (Y_pickT rfl rfl ?_)
            refine O_y hs (Y_assign rfl ?_)
            refine O_nil (T_sub [(2, _), (19, _)] ⟨rfl, rfl, trivial⟩ ?_)
            refine T_condF rfl (T_seq (T_region rfl ?_))
            refine O_y hs (Y_fieldAddr FO28_0 rfl (m := 0) rfl ?_)
            refine O_y hs (Y_ld 1 Tryd.isAgg3 rfl rfl rfl ?_)
            refine O_y hs (Y_cmpS rfl rfl rfl (fun h55 => ?_) (fun h55 => ?_))
            · -- h55: True
              dsimp only [cmpP] at h55
              refine O_y hs (Y_move rfl ?_)
              refine O_yy 56 hs rfl rfl (Y_fieldAddr FO28_1 rfl (m := 1) rfl ?_)
              refine O_yy 56 hs rfl rfl (Y_ldA 1 Tryd.isAgg24 Tryd.sizeOf24 rfl rfl (vs := [_, _, _, _]) rfl rfl ?_)
              refine O_yy 56 hs rfl rfl (Y_buildA Tryd.underlying24 Tryd.sizeOf22 Tryd.zeroValue24 rfl rfl (cs := [_, _, _, _]) rfl ?_)
              refine O_yy 56 hs rfl rfl (Y_neqWS (a := [c0, c1, c2, c3]) (b := [0, 0, 0, 0]) Tryd.underlying24 Tryd.sizeOf22 Tryd.isAgg22 Tryd.underlying22 rfl rfl rfl rfl rfl hc.2 (by decide) (fun h60 => ?_) (fun h60 => ?_))
              · -- h60: True
                refine O_y hs (Y_pickT rfl rfl ?_)
                refine O_y hs (Y_assign rfl ?_)
                refine O_nil (T_sub [(2, _), (52, _)] ⟨rfl, rfl, trivial⟩ ?_)
                refine T_condT rfl (T_seq (T_region rfl ?_))
                refine O_y hs (Y_assign rfl ?_)
                refine O_nil (T_sub [(4, _)] ⟨rfl, trivial⟩ ?_)
                refine T_ret ?_
                refine Rt_fin (vs := [_]) Tryd.results14 rfl ⟨rfl, trivial⟩ ?_
                try dsimp only [tup]
                unfold nodeE; rw [if_neg (by dsimp only; omega)]
                rw [if_neg (fun h => h ⟨by rw [if_neg (by dsimp only; omega)]; dsimp only; omega, by rw [if_neg (by dsimp only; omega)]; dsimp only; omega⟩)]
                rw [if_pos ⟨by dsimp only; omega, h60⟩]
                exact ⟨_, [], hs.done, rfl, rfl⟩
              · -- h60: False
                refine O_y hs (Y_pickT rfl rfl ?_)
                refine O_y hs (Y_assign rfl ?_)
                refine O_nil (T_sub [(2, _), (52, _)] ⟨rfl, rfl, trivial⟩ ?_)
                refine T_condF rfl (T_seq (T_region rfl ?_))
                refine O_y hs (Y_fieldAddr FO28_0 rfl (m := 0) rfl ?_)
                refine O_y hs (Y_ld 1 Tryd.isAgg3 rfl rfl rfl ?_)
                refine O_y hs (Y_cmpS rfl rfl rfl (fun h65 => ?_) (fun h65 => ?_))
                · -- h65: True
                  dsimp only [cmpP] at h65
                  refine O_y hs (Y_assign rfl ?_)
                  refine O_nil (T_sub [(2, _), (62, _)] ⟨rfl, rfl, trivial⟩ ?_)
                  refine T_condT rfl (T_seq (T_seq (T_region rfl ?_)))
                  refine O_y hs (Y_fieldAddr FO28_4 rfl (m := 7) rfl ?_)
                  refine O_y hs (Y_ld 1 Tryd.isAgg3 rfl rfl rfl ?_)
                  refine O_y hs (Y_cmpS rfl rfl rfl (fun h68 => ?_) (fun h68 => ?_))
                  · -- h68: True
                    dsimp only [cmpP] at h68
                    refine O_y hs (Y_move rfl ?_)
                    refine O_no 69 rfl rfl ?_
                    refine O_no 69 rfl rfl ?_
                    refine O_no 69 rfl rfl ?_
                    refine O_y hs (Y_pickT rfl rfl ?_)
                    refine O_nil (T_sub [(73, _)] ⟨rfl, trivial⟩ ?_)
                    refine T_condT rfl (T_seq (T_region rfl ?_))
                    refine O_y hs (Y_assign rfl ?_)
                    refine O_nil (T_sub [(4, _)] ⟨rfl, trivial⟩ ?_)
                    refine T_ret ?_
                    refine Rt_fin (vs := [_]) Tryd.results14 rfl ⟨rfl, trivial⟩ ?_
                    try dsimp only [tup]
                    unfold nodeE; rw [if_neg (by dsimp only; omega)]
                    rw [if_neg (fun h => h ⟨by rw [if_neg (by dsimp only; omega)]; dsimp only; omega, by rw [if_neg (by dsimp only; omega)]; dsimp only; omega⟩)]
                    rw [if_neg (fun h => h.2 h60)]
                    rw [if_pos (by dsimp only; omega), if_pos (by dsimp only; omega)]
                    exact ⟨_, [], hs.done, rfl, rfl⟩
                  · -- h68: False
                    dsimp only [cmpP] at h68
                    refine O_y hs (Y_move rfl ?_)
                    refine O_yy 69 hs rfl rfl (Y_fieldAddr FO28_5 rfl (m := 8) rfl ?_)
                    refine O_yy 69 hs rfl rfl (Y_ld 1 Tryd.isAgg3 rfl rfl rfl ?_)
                    refine O_yy 69 hs rfl rfl (Y_cmpS rfl rfl rfl (fun h72 => ?_) (fun h72 => ?_))
                    · -- h72: True
                      dsimp only [cmpP] at h72
                      refine O_y hs (Y_pickF rfl rfl ?_)
                      refine O_nil (T_sub [(73, _)] ⟨rfl, trivial⟩ ?_)
                      refine T_condT rfl (T_seq (T_region rfl ?_))
                      refine O_y hs (Y_assign rfl ?_)
                      refine O_nil (T_sub [(4, _)] ⟨rfl, trivial⟩ ?_)
                      refine T_ret ?_
                      refine Rt_fin (vs := [_]) Tryd.results14 rfl ⟨rfl, trivial⟩ ?_
                      try dsimp only [tup]
                      unfold nodeE; rw [if_neg (by dsimp only; omega)]
                      rw [if_neg (fun h => h ⟨by rw [if_neg (by dsimp only; omega)]; dsimp only; omega, by rw [if_neg (by dsimp only; omega)]; dsimp only; omega⟩)]
                      rw [if_neg (fun h => h.2 h60)]
                      rw [if_pos (by dsimp only; omega), if_pos (by dsimp only; omega)]
                      exact ⟨_, [], hs.done, rfl, rfl⟩
                    · -- h72: False
                      dsimp only [cmpP] at h72
                      refine O_y hs (Y_pickF rfl rfl ?_)
                      refine O_nil (T_sub [(73, _)] ⟨rfl, trivial⟩ ?_)
                      refine T_condF rfl (T_skip ?_)
                      refine T_seq (T_region rfl ?_)
                      refine O_y hs (Y_assign rfl ?_)
                      refine O_nil (T_sub [(4, _)] ⟨rfl, trivial⟩ ?_)
                      refine T_ret ?_
                      refine Rt_fin (vs := [_]) Tryd.results14 rfl ⟨rfl, trivial⟩ ?_
                      try dsimp only [tup]
                      unfold nodeE; rw [if_neg (by dsimp only; omega)]
                      rw [if_neg (fun h => h ⟨by rw [if_neg (by dsimp only; omega)]; dsimp only; omega, by rw [if_neg (by dsimp only; omega)]; dsimp only; omega⟩)]
                      rw [if_neg (fun h => h.2 h60)]
                      rw [if_pos (by dsimp only; omega), if_neg (by dsimp only; omega)]
                      exact ⟨_, [], hs.done, rfl, rfl⟩
                · -- h65: False
                  dsimp only [cmpP] at h65
                  refine O_y hs (Y_assign rfl ?_)
                  refine O_nil (T_sub [(2, _), (62, _)] ⟨rfl, rfl, trivial⟩ ?_)
                  refine T_condF rfl (T_seq (T_seq (T_region rfl ?_)))
                  refine O_y hs (Y_fieldAddr FO28_4 rfl (m := 7) rfl ?_)
                  refine O_y hs (Y_ld 1 Tryd.isAgg3 rfl rfl rfl ?_)
                  refine O_y hs (Y_cmpS rfl rfl rfl (fun h77 => ?_) (fun h77 => ?_))
                  · -- h77: True
                    dsimp only [cmpP] at h77
                    refine O_y hs (Y_assign rfl ?_)
                    refine O_nil (T_sub [(2, _), (74, _)] ⟨rfl, rfl, trivial⟩ ?_)
                    refine T_condT rfl (T_skip ?_)
                    refine T_condT rfl (T_seq (T_region rfl ?_))
                    refine O_y hs (Y_assign rfl ?_)
                    refine O_nil (T_sub [(4, _)] ⟨rfl, trivial⟩ ?_)
                    refine T_ret ?_
                    refine Rt_fin (vs := [_]) Tryd.results14 rfl ⟨rfl, trivial⟩ ?_
                    try dsimp only [tup]
                    unfold nodeE; rw [if_neg (by dsimp only; omega)]
                    rw [if_neg (fun h => h ⟨by rw [if_neg (by dsimp only; omega)]; dsimp only; omega, by rw [if_neg (by dsimp only; omega)]; dsimp only; omega⟩)]
                    rw [if_neg (fun h => h.2 h60)]
                    rw [if_neg (by dsimp only; omega)]
                    rw [if_pos (by dsimp only; omega)]
                    exact ⟨_, [], hs.done, rfl, rfl⟩
                  · -- h77: False
                    dsimp only [cmpP] at h77
                    refine O_y hs (Y_assign rfl ?_)
                    refine O_nil (T_sub [(2, _), (74, _)] ⟨rfl, rfl, trivial⟩ ?_)
                    refine T_condF rfl (T_region rfl ?_)
                    refine O_y hs (Y_fieldAddr FO28_5 rfl (m := 8) rfl ?_)
                    refine O_y hs (Y_ld 1 Tryd.isAgg3 rfl rfl rfl ?_)
                    refine O_y hs (Y_cmpS rfl rfl rfl (fun h80 => ?_) (fun h80 => ?_))
                    · -- h80: True
                      dsimp only [cmpP] at h80
                      refine O_y hs (Y_assign rfl ?_)
                      refine O_nil (T_sub [(2, _), (74, _)] ⟨rfl, rfl, trivial⟩ ?_)
                      refine T_condT rfl (T_seq (T_region rfl ?_))
                      refine O_y hs (Y_assign rfl ?_)
                      refine O_nil (T_sub [(4, _)] ⟨rfl, trivial⟩ ?_)
                      refine T_ret ?_
                      refine Rt_fin (vs := [_]) Tryd.results14 rfl ⟨rfl, trivial⟩ ?_
                      try dsimp only [tup]
                      unfold nodeE; rw [if_neg (by dsimp only; omega)]
                      rw [if_neg (fun h => h ⟨by rw [if_neg (by dsimp only; omega)]; dsimp only; omega, by rw [if_neg (by dsimp only; omega)]; dsimp only; omega⟩)]
                      rw [if_neg (fun h => h.2 h60)]
                      rw [if_neg (by dsimp only; omega)]
                      rw [if_pos (by dsimp only; omega)]
                      exact ⟨_, [], hs.done, rfl, rfl⟩
                    · -- h80: False
                      dsimp only [cmpP] at h80
                      refine O_y hs (Y_assign rfl ?_)
                      refine O_nil (T_sub [(2, _), (74, _)] ⟨rfl, rfl, trivial⟩ ?_)
                      refine T_condF rfl (T_seq (T_seq (T_region rfl ?_)))
                      refine O_y hs (Y_fieldAddr FO28_4 rfl (m := 7) rfl ?_)
                      refine O_y hs (Y_ld 1 Tryd.isAgg3 rfl rfl rfl ?_)
                      refine O_y hs (Y_cmpS rfl rfl rfl (fun h84 => ?_) (fun h84 => ?_))
                      · -- h84: True
                        dsimp only [cmpP] at h84
                        refine O_y hs (Y_assign rfl ?_)
                        refine O_nil (T_sub [(2, _), (81, _)] ⟨rfl, rfl, trivial⟩ ?_)
                        refine T_condT rfl (T_skip ?_)
                        refine T_condT rfl (T_seq (T_region rfl ?_))
                        refine O_y hs (Y_assign rfl ?_)
                        refine O_nil (T_sub [(4, _)] ⟨rfl, trivial⟩ ?_)
                        refine T_ret ?_
                        refine Rt_fin (vs := [_]) Tryd.results14 rfl ⟨rfl, trivial⟩ ?_
                        try dsimp only [tup]
                        unfold nodeE; rw [if_neg (by dsimp only; omega)]
                        rw [if_neg (fun h => h ⟨by rw [if_neg (by dsimp only; omega)]; dsimp only; omega, by rw [if_neg (by dsimp only; omega)]; dsimp only; omega⟩)]
                        rw [if_neg (fun h => h.2 h60)]
                        rw [if_neg (by dsimp only; omega)]
                        rw [if_neg (by dsimp only; omega)]
                        rw [if_pos (by dsimp only; omega)]
                        exact ⟨_, [], hs.done, rfl, rfl⟩
                      · -- h84: False
                        dsimp only [cmpP] at h84
                        refine O_y hs (Y_assign rfl ?_)
                        refine O_nil (T_sub [(2, _), (81, _)] ⟨rfl, rfl, trivial⟩ ?_)
                        refine T_condF rfl (T_region rfl ?_)
                        refine O_y hs (Y_fieldAddr FO28_5 rfl (m := 8) rfl ?_)
                        refine O_y hs (Y_ld 1 Tryd.isAgg3 rfl rfl rfl ?_)
                        refine O_y hs (Y_cmpS rfl rfl rfl (fun h87 => ?_) (fun h87 => ?_))
                        · -- h87: True
                          dsimp only [cmpP] at h87
                          refine O_y hs (Y_assign rfl ?_)
                          refine O_nil (T_sub [(2, _), (81, _)] ⟨rfl, rfl, trivial⟩ ?_)
                          refine T_condT rfl (T_seq (T_region rfl ?_))
                          refine O_y hs (Y_assign rfl ?_)
                          refine O_nil (T_sub [(4, _)] ⟨rfl, trivial⟩ ?_)
                          refine T_ret ?_
                          refine Rt_fin (vs := [_]) Tryd.results14 rfl ⟨rfl, trivial⟩ ?_
                          try dsimp only [tup]
                          unfold nodeE; rw [if_neg (by dsimp only; omega)]
                          rw [if_neg (fun h => h ⟨by rw [if_neg (by dsimp only; omega)]; dsimp only; omega, by rw [if_neg (by dsimp only; omega)]; dsimp only; omega⟩)]
                          rw [if_neg (fun h => h.2 h60)]
                          rw [if_neg (by dsimp only; omega)]
                          rw [if_neg (by dsimp only; omega)]
                          rw [if_pos (by dsimp only; omega)]
                          exact ⟨_, [], hs.done, rfl, rfl⟩
                        · -- h87: False
                          dsimp only [cmpP] at h87
                          refine O_y hs (Y_assign rfl ?_)
                          refine O_nil (T_sub [(2, _), (81, _)] ⟨rfl, rfl, trivial⟩ ?_)
                          refine T_condF rfl (T_seq (T_region rfl ?_))
                          refine O_y hs (Y_fieldAddr FO28_5 rfl (m := 8) rfl ?_)
                          refine O_y hs (Y_ld 1 Tryd.isAgg3 rfl rfl rfl ?_)
                          refine O_y hs (Y_cmpS rfl rfl rfl (fun h91 => ?_) (fun h91 => ?_))
                          · -- h91: True
                            dsimp only [cmpP] at h91
                            refine O_y hs (Y_move rfl ?_)
                            refine O_yy 92 hs rfl rfl (Y_fieldAddr FO28_5 rfl (m := 8) rfl ?_)
                            refine O_yy 92 hs rfl rfl (Y_ld 1 Tryd.isAgg3 rfl rfl rfl ?_)
                            refine O_yy 92 hs rfl rfl (Y_fieldAddr FO28_4 rfl (m := 7) rfl ?_)
                            refine O_yy 92 hs rfl rfl (Y_ld 1 Tryd.isAgg3 rfl rfl rfl ?_)
                            refine O_yy 92 hs rfl rfl (Y_cmpS rfl rfl rfl (fun h97 => ?_) (fun h97 => ?_))
                            · -- h97: True
                              dsimp only [cmpP] at h97
                              refine O_y hs (Y_pickT rfl rfl ?_)
                              refine O_y hs (Y_assign rfl ?_)
                              refine O_nil (T_sub [(88, _)] ⟨rfl, trivial⟩ ?_)
                              refine T_condT rfl (T_seq (T_region rfl ?_))
                              refine O_y hs (Y_assign rfl ?_)
                              refine O_nil (T_sub [(4, _)] ⟨rfl, trivial⟩ ?_)
                              refine T_ret ?_
                              refine Rt_fin (vs := [_]) Tryd.results14 rfl ⟨rfl, trivial⟩ ?_
                              try dsimp only [tup]
                              unfold nodeE; rw [if_neg (by dsimp only; omega)]
                              rw [if_neg (fun h => h ⟨by rw [if_neg (by dsimp only; omega)]; dsimp only; omega, by rw [if_neg (by dsimp only; omega)]; dsimp only; omega⟩)]
                              rw [if_neg (fun h => h.2 h60)]
                              rw [if_neg (by dsimp only; omega)]
                              rw [if_neg (by dsimp only; omega)]
                              rw [if_neg (by dsimp only; omega)]
                              rw [if_pos (by dsimp only; omega)]
                              exact ⟨_, [], hs.done, rfl, rfl⟩
                            · -- h97: False
                              dsimp only [cmpP] at h97
                              refine O_y hs (Y_pickT rfl rfl ?_)
                              refine O_y hs (Y_assign rfl ?_)
                              refine O_nil (T_sub [(88, _)] ⟨rfl, trivial⟩ ?_)
                              refine T_condF rfl (T_skip ?_)
                              refine T_seq (T_region rfl ?_)
                              refine O_y hs (Y_assign rfl ?_)
                              refine O_nil (T_sub [(4, _)] ⟨rfl, trivial⟩ ?_)
                              refine T_ret ?_
                              refine Rt_fin (vs := [_]) Tryd.results14 rfl ⟨rfl, trivial⟩ ?_
                              try dsimp only [tup]
                              unfold nodeE; rw [if_neg (by dsimp only; omega)]
                              rw [if_neg (fun h => h ⟨by rw [if_neg (by dsimp only; omega)]; dsimp only; omega, by rw [if_neg (by dsimp only; omega)]; dsimp only; omega⟩)]
                              rw [if_neg (fun h => h.2 h60)]
                              rw [if_neg (by dsimp only; omega)]
                              rw [if_neg (by dsimp only; omega)]
                              rw [if_neg (by dsimp only; omega)]
                              rw [if_neg (by dsimp only; omega)]
                              exact ⟨_, [], hs.done, rfl, rfl⟩
                          · -- h91: False
                            dsimp only [cmpP] at h91
                            refine O_y hs (Y_move rfl ?_)
                            refine O_no 92 rfl rfl ?_
                            refine O_no 92 rfl rfl ?_
                            refine O_no 92 rfl rfl ?_
                            refine O_no 92 rfl rfl ?_
                            refine O_no 92 rfl rfl ?_
                            refine O_y hs (Y_pickF rfl rfl ?_)
                            refine O_y hs (Y_assign rfl ?_)
                            refine O_nil (T_sub [(88, _)] ⟨rfl, trivial⟩ ?_)
                            refine T_condF rfl (T_skip ?_)
                            refine T_seq (T_region rfl ?_)
                            refine O_y hs (Y_assign rfl ?_)
                            refine O_nil (T_sub [(4, _)] ⟨rfl, trivial⟩ ?_)
                            refine T_ret ?_
                            refine Rt_fin (vs := [_]) Tryd.results14 rfl ⟨rfl, trivial⟩ ?_
                            try dsimp only [tup]
                            unfold nodeE; rw [if_neg (by dsimp only; omega)]
                            rw [if_neg (fun h => h ⟨by rw [if_neg (by dsimp only; omega)]; dsimp only; omega, by rw [if_neg (by dsimp only; omega)]; dsimp only; omega⟩)]
                            rw [if_neg (fun h => h.2 h60)]
                            rw [if_neg (by dsimp only; omega)]
                            rw [if_neg (by dsimp only; omega)]
                            rw [if_neg (by dsimp only; omega)]
                            rw [if_neg (by dsimp only; omega)]
                            exact ⟨_, [], hs.done, rfl, rfl⟩
            · -- h55: False
              dsimp only [cmpP] at h55
              refine O_y hs (Y_move rfl ?_)
              refine O_no 56 rfl rfl ?_
              refine O_no 56 rfl rfl ?_
              refine O_no 56 rfl rfl ?_
              refine O_no 56 rfl rfl ?_
              refine O_y hs (Y_pickF rfl rfl ?_)
              refine O_y hs (Y_assign rfl ?_)
              refine O_nil (T_sub [(2, _), (52, _)] ⟨rfl, rfl, trivial⟩ ?_)
              refine T_condF rfl (T_seq (T_region rfl ?_))
              refine O_y hs (Y_fieldAddr FO28_0 rfl (m := 0) rfl ?_)
              refine O_y hs (Y_ld 1 Tryd.isAgg3 rfl rfl rfl ?_)
              refine O_y hs (Y_cmpS rfl rfl rfl (fun h65 => ?_) (fun h65 => ?_))
              · -- h65: True
                dsimp only [cmpP] at h65
                refine O_y hs (Y_assign rfl ?_)
                refine O_nil (T_sub [(2, _), (62, _)] ⟨rfl, rfl, trivial⟩ ?_)
                refine T_condT rfl (T_seq (T_seq (T_region rfl ?_)))
                refine O_y hs (Y_fieldAddr FO28_4 rfl (m := 7) rfl ?_)
                refine O_y hs (Y_ld 1 Tryd.isAgg3 rfl rfl rfl ?_)
                refine O_y hs (Y_cmpS rfl rfl rfl (fun h68 => ?_) (fun h68 => ?_))
                · -- h68: True
                  dsimp only [cmpP] at h68
                  refine O_y hs (Y_move rfl ?_)
                  refine O_no 69 rfl rfl ?_
                  refine O_no 69 rfl rfl ?_
                  refine O_no 69 rfl rfl ?_
                  refine O_y hs (Y_pickT rfl rfl ?_)
                  refine O_nil (T_sub [(73, _)] ⟨rfl, trivial⟩ ?_)
                  refine T_condT rfl (T_seq (T_region rfl ?_))
                  refine O_y hs (Y_assign rfl ?_)
                  refine O_nil (T_sub [(4, _)] ⟨rfl, trivial⟩ ?_)
                  refine T_ret ?_
                  refine Rt_fin (vs := [_]) Tryd.results14 rfl ⟨rfl, trivial⟩ ?_
                  try dsimp only [tup]
                  unfold nodeE; rw [if_neg (by dsimp only; omega)]
                  rw [if_neg (fun h => h ⟨by rw [if_neg (by dsimp only; omega)]; dsimp only; omega, by rw [if_neg (by dsimp only; omega)]; dsimp only; omega⟩)]
                  rw [if_neg (fun h => absurd h.1 (by dsimp only; omega))]
                  rw [if_pos (by dsimp only; omega), if_pos (by dsimp only; omega)]
                  exact ⟨_, [], hs.done, rfl, rfl⟩
                · -- h68: False
                  dsimp only [cmpP] at h68
                  refine O_y hs (Y_move rfl ?_)
                  refine O_yy 69 hs rfl rfl (Y_fieldAddr FO28_5 rfl (m := 8) rfl ?_)
                  refine O_yy 69 hs rfl rfl (Y_ld 1 Tryd.isAgg3 rfl rfl rfl ?_)
                  refine O_yy 69 hs rfl rfl (Y_cmpS rfl rfl rfl (fun h72 => ?_) (fun h72 => ?_))
                  · -- h72: True
                    dsimp only [cmpP] at h72
                    refine O_y hs (Y_pickF rfl rfl ?_)
                    refine O_nil (T_sub [(73, _)] ⟨rfl, trivial⟩ ?_)
                    refine T_condT rfl (T_seq (T_region rfl ?_))
                    refine O_y hs (Y_assign rfl ?_)
                    refine O_nil (T_sub [(4, _)] ⟨rfl, trivial⟩ ?_)
                    refine T_ret ?_
                    refine Rt_fin (vs := [_]) Tryd.results14 rfl ⟨rfl, trivial⟩ ?_
                    try dsimp only [tup]
                    unfold nodeE; rw [if_neg (by dsimp only; omega)]
                    rw [if_neg (fun h => h ⟨by rw [if_neg (by dsimp only; omega)]; dsimp only; omega, by rw [if_neg (by dsimp only; omega)]; dsimp only; omega⟩)]
                    rw [if_neg (fun h => absurd h.1 (by dsimp only; omega))]
                    rw [if_pos (by dsimp only; omega), if_pos (by dsimp only; omega)]
                    exact ⟨_, [], hs.done, rfl, rfl⟩
                  · -- h72: False
                    dsimp only [cmpP] at h72
                    refine O_y hs (Y_pickF rfl rfl ?_)
                    refine O_nil (T_sub [(73, _)] ⟨rfl, trivial⟩ ?_)
                    refine T_condF rfl (T_skip ?_)
                    refine T_seq (T_region rfl ?_)
                    refine O_y hs (Y_assign rfl ?_)
                    refine O_nil (T_sub [(4, _)] ⟨rfl, trivial⟩ ?_)
                    refine T_ret ?_
                    refine Rt_fin (vs := [_]) Tryd.results14 rfl ⟨rfl, trivial⟩ ?_
                    try dsimp only [tup]
                    unfold nodeE; rw [if_neg (by dsimp only; omega)]
                    rw [if_neg (fun h => h ⟨by rw [if_neg (by dsimp only; omega)]; dsimp only; omega, by rw [if_neg (by dsimp only; omega)]; dsimp only; omega⟩)]
                    rw [if_neg (fun h => absurd h.1 (by dsimp only; omega))]
                    rw [if_pos (by dsimp only; omega), if_neg (by dsimp only; omega)]
                    exact ⟨_, [], hs.done, rfl, rfl⟩
              · -- h65: False
                dsimp only [cmpP] at h65
                refine O_y hs (Y_assign rfl ?_)
                refine O_nil (T_sub [(2, _), (62, _)] ⟨rfl, rfl, trivial⟩ ?_)
                refine T_condF rfl (T_seq (T_seq (T_region rfl ?_)))
                refine O_y hs (Y_fieldAddr FO28_4 rfl (m := 7) rfl ?_)
                refine O_y hs (Y_ld 1 Tryd.isAgg3 rfl rfl rfl ?_)
                refine O_y hs (Y_cmpS rfl rfl rfl (fun h77 => ?_) (fun h77 => ?_))
                · -- h77: True
                  dsimp only [cmpP] at h77
                  refine O_y hs (Y_assign rfl ?_)
                  refine O_nil (T_sub [(2, _), (74, _)] ⟨rfl, rfl, trivial⟩ ?_)
                  refine T_condT rfl (T_skip ?_)
                  refine T_condT rfl (T_seq (T_region rfl ?_))
                  refine O_y hs (Y_assign rfl ?_)
                  refine O_nil (T_sub [(4, _)] ⟨rfl, trivial⟩ ?_)
                  refine T_ret ?_
                  refine Rt_fin (vs := [_]) Tryd.results14 rfl ⟨rfl, trivial⟩ ?_
                  try dsimp only [tup]
                  unfold nodeE; rw [if_neg (by dsimp only; omega)]
                  rw [if_neg (fun h => h ⟨by rw [if_neg (by dsimp only; omega)]; dsimp only; omega, by rw [if_neg (by dsimp only; omega)]; dsimp only; omega⟩)]
                  rw [if_neg (fun h => absurd h.1 (by dsimp only; omega))]
                  rw [if_neg (by dsimp only; omega)]
                  rw [if_pos (by dsimp only; omega)]
                  exact ⟨_, [], hs.done, rfl, rfl⟩
                · -- h77: False
                  dsimp only [cmpP] at h77
                  refine O_y hs (Y_assign rfl ?_)
                  refine O_nil (T_sub [(2, _), (74, _)] ⟨rfl, rfl, trivial⟩ ?_)
                  refine T_condF rfl (T_region rfl ?_)
                  refine O_y hs (Y_fieldAddr FO28_5 rfl (m := 8) rfl ?_)
                  refine O_y hs (Y_ld 1 Tryd.isAgg3 rfl rfl rfl ?_)
                  refine O_y hs (Y_cmpS rfl rfl rfl (fun h80 => ?_) (fun h80 => ?_))
                  · -- h80: True
                    dsimp only [cmpP] at h80
                    refine O_y hs (Y_assign rfl ?_)
                    refine O_nil (T_sub [(2, _), (74, _)] ⟨rfl, rfl, trivial⟩ ?_)
                    refine T_condT rfl (T_seq (T_region rfl ?_))
                    refine O_y hs (Y_assign rfl ?_)
                    refine O_nil (T_sub [(4, _)] ⟨rfl, trivial⟩ ?_)
                    refine T_ret ?_
                    refine Rt_fin (vs := [_]) Tryd.results14 rfl ⟨rfl, trivial⟩ ?_
                    try dsimp only [tup]
                    unfold nodeE; rw [if_neg (by dsimp only; omega)]
                    rw [if_neg (fun h => h ⟨by rw [if_neg (by dsimp only; omega)]; dsimp only; omega, by rw [if_neg (by dsimp only; omega)]; dsimp only; omega⟩)]
                    rw [if_neg (fun h => absurd h.1 (by dsimp only; omega))]
                    rw [if_neg (by dsimp only; omega)]
                    rw [if_pos (by dsimp only; omega)]
                    exact ⟨_, [], hs.done, rfl, rfl⟩
                  · -- h80: False
                    dsimp only [cmpP] at h80
                    refine O_y hs (Y_assign rfl ?_)
                    refine O_nil (T_sub [(2, _), (74, _)] ⟨rfl, rfl, trivial⟩ ?_)
                    refine T_condF rfl (T_seq (T_seq (T_region rfl ?_)))
                    refine O_y hs (Y_fieldAddr FO28_4 rfl (m := 7) rfl ?_)
                    refine O_y hs (Y_ld 1 Tryd.isAgg3 rfl rfl rfl ?_)
                    refine O_y hs (Y_cmpS rfl rfl rfl (fun h84 => ?_) (fun h84 => ?_))
                    · -- h84: True
                      dsimp only [cmpP] at h84
                      refine O_y hs (Y_assign rfl ?_)
                      refine O_nil (T_sub [(2, _), (81, _)] ⟨rfl, rfl, trivial⟩ ?_)
                      refine T_condT rfl (T_skip ?_)
                      refine T_condT rfl (T_seq (T_region rfl ?_))
                      refine O_y hs (Y_assign rfl ?_)
                      refine O_nil (T_sub [(4, _)] ⟨rfl, trivial⟩ ?_)
                      refine T_ret ?_
                      refine Rt_fin (vs := [_]) Tryd.results14 rfl ⟨rfl, trivial⟩ ?_
                      try dsimp only [tup]
                      unfold nodeE; rw [if_neg (by dsimp only; omega)]
                      rw [if_neg (fun h => h ⟨by rw [if_neg (by dsimp only; omega)]; dsimp only; omega, by rw [if_neg (by dsimp only; omega)]; dsimp only; omega⟩)]
                      rw [if_neg (fun h => absurd h.1 (by dsimp only; omega))]
                      rw [if_neg (by dsimp only; omega)]
                      rw [if_neg (by dsimp only; omega)]
                      rw [if_pos (by dsimp only; omega)]
                      exact ⟨_, [], hs.done, rfl, rfl⟩
                    · -- h84: False
                      dsimp only [cmpP] at h84
                      refine O_y hs (Y_assign rfl ?_)
                      refine O_nil (T_sub [(2, _), (81, _)] ⟨rfl, rfl, trivial⟩ ?_)
                      refine T_condF rfl (T_region rfl ?_)
                      refine O_y hs (Y_fieldAddr FO28_5 rfl (m := 8) rfl ?_)
                      refine O_y hs (Y_ld 1 Tryd.isAgg3 rfl rfl rfl ?_)
                      refine O_y hs (Y_cmpS rfl rfl rfl (fun h87 => ?_) (fun h87 => ?_))
                      · -- h87: True
                        dsimp only [cmpP] at h87
                        refine O_y hs (Y_assign rfl ?_)
                        refine O_nil (T_sub [(2, _), (81, _)] ⟨rfl, rfl, trivial⟩ ?_)
                        refine T_condT rfl (T_seq (T_region rfl ?_))
                        refine O_y hs (Y_assign rfl ?_)
                        refine O_nil (T_sub [(4, _)] ⟨rfl, trivial⟩ ?_)
                        refine T_ret ?_
                        refine Rt_fin (vs := [_]) Tryd.results14 rfl ⟨rfl, trivial⟩ ?_
                        try dsimp only [tup]
                        unfold nodeE; rw [if_neg (by dsimp only; omega)]
                        rw [if_neg (fun h => h ⟨by rw [if_neg (by dsimp only; omega)]; dsimp only; omega, by rw [if_neg (by dsimp only; omega)]; dsimp only; omega⟩)]
                        rw [if_neg (fun h => absurd h.1 (by dsimp only; omega))]
                        rw [if_neg (by dsimp only; omega)]
                        rw [if_neg (by dsimp only; omega)]
                        rw [if_pos (by dsimp only; omega)]
                        exact ⟨_, [], hs.done, rfl, rfl⟩
                      · -- h87: False
                        dsimp only [cmpP] at h87
                        refine O_y hs (Y_assign rfl ?_)
                        refine O_nil (T_sub [(2, _), (81, _)] ⟨rfl, rfl, trivial⟩ ?_)
                        refine T_condF rfl (T_seq (T_region rfl ?_))
                        refine O_y hs (Y_fieldAddr FO28_5 rfl (m := 8) rfl ?_)
                        refine O_y hs (Y_ld 1 Tryd.isAgg3 rfl rfl rfl ?_)
                        refine O_y hs (Y_cmpS rfl rfl rfl (fun h91 => ?_) (fun h91 => ?_))
                        · -- h91: True
                          dsimp only [cmpP] at h91
                          refine O_y hs (Y_move rfl ?_)
                          refine O_yy 92 hs rfl rfl (Y_fieldAddr FO28_5 rfl (m := 8) rfl ?_)
                          refine O_yy 92 hs rfl rfl (Y_ld 1 Tryd.isAgg3 rfl rfl rfl ?_)
                          refine O_yy 92 hs rfl rfl (Y_fieldAddr FO28_4 rfl (m := 7) rfl ?_)
                          refine O_yy 92 hs rfl rfl (Y_ld 1 Tryd.isAgg3 rfl rfl rfl ?_)
                          refine O_yy 92 hs rfl rfl (Y_cmpS rfl rfl rfl (fun h97 => ?_) (fun h97 => ?_))
                          · -- h97: True
                            dsimp only [cmpP] at h97
                            refine O_y hs (Y_pickT rfl rfl ?_)
                            refine O_y hs (Y_assign rfl ?_)
                            refine O_nil (T_sub [(88, _)] ⟨rfl, trivial⟩ ?_)
                            refine T_condT rfl (T_seq (T_region rfl ?_))
                            refine O_y hs (Y_assign rfl ?_)
                            refine O_nil (T_sub [(4, _)] ⟨rfl, trivial⟩ ?_)
                            refine T_ret ?_
                            refine Rt_fin (vs := [_]) Tryd.results14 rfl ⟨rfl, trivial⟩ ?_
                            try dsimp only [tup]
                            unfold nodeE; rw [if_neg (by dsimp only; omega)]
                            rw [if_neg (fun h => h ⟨by rw [if_neg (by dsimp only; omega)]; dsimp only; omega, by rw [if_neg (by dsimp only; omega)]; dsimp only; omega⟩)]
                            rw [if_neg (fun h => absurd h.1 (by dsimp only; omega))]
                            rw [if_neg (by dsimp only; omega)]
                            rw [if_neg (by dsimp only; omega)]
                            rw [if_neg (by dsimp only; omega)]
                            rw [if_pos (by dsimp only; omega)]
                            exact ⟨_, [], hs.done, rfl, rfl⟩
                          · -- h97: False
                            dsimp only [cmpP] at h97
                            refine O_y hs (Y_pickT rfl rfl ?_)
                            refine O_y hs (Y_assign rfl ?_)
                            refine O_nil (T_sub [(88, _)] ⟨rfl, trivial⟩ ?_)
                            refine T_condF rfl (T_skip ?_)
                            refine T_seq (T_region rfl ?_)
                            refine O_y hs (Y_assign rfl ?_)
                            refine O_nil (T_sub [(4, _)] ⟨rfl, trivial⟩ ?_)
                            refine T_ret ?_
                            refine Rt_fin (vs := [_]) Tryd.results14 rfl ⟨rfl, trivial⟩ ?_
                            try dsimp only [tup]
                            unfold nodeE; rw [if_neg (by dsimp only; omega)]
                            rw [if_neg (fun h => h ⟨by rw [if_neg (by dsimp only; omega)]; dsimp only; omega, by rw [if_neg (by dsimp only; omega)]; dsimp only; omega⟩)]
                            rw [if_neg (fun h => absurd h.1 (by dsimp only; omega))]
                            rw [if_neg (by dsimp only; omega)]
                            rw [if_neg (by dsimp only; omega)]
                            rw [if_neg (by dsimp only; omega)]
                            rw [if_neg (by dsimp only; omega)]
                            exact ⟨_, [], hs.done, rfl, rfl⟩
                        · -- h91: False
                          dsimp only [cmpP] at h91
                          refine O_y hs (Y_move rfl ?_)
                          refine O_no 92 rfl rfl ?_
                          refine O_no 92 rfl rfl ?_
                          refine O_no 92 rfl rfl ?_
                          refine O_no 92 rfl rfl ?_
                          refine O_no 92 rfl rfl ?_
                          refine O_y hs (Y_pickF rfl rfl ?_)
                          refine O_y hs (Y_assign rfl ?_)
                          refine O_nil (T_sub [(88, _)] ⟨rfl, trivial⟩ ?_)
                          refine T_condF rfl (T_skip ?_)
                          refine T_seq (T_region rfl ?_)
                          refine O_y hs (Y_assign rfl ?_)
                          refine O_nil (T_sub [(4, _)] ⟨rfl, trivial⟩ ?_)
                          refine T_ret ?_
                          refine Rt_fin (vs := [_]) Tryd.results14 rfl ⟨rfl, trivial⟩ ?_
                          try dsimp only [tup]
                          unfold nodeE; rw [if_neg (by dsimp only; omega)]
                          rw [if_neg (fun h => h ⟨by rw [if_neg (by dsimp only; omega)]; dsimp only; omega, by rw [if_neg (by dsimp only; omega)]; dsimp only; omega⟩)]
                          rw [if_neg (fun h => absurd h.1 (by dsimp only; omega))]
                          rw [if_neg (by dsimp only; omega)]
                          rw [if_neg (by dsimp only; omega)]
                          rw [if_neg (by dsimp only; omega)]
                          rw [if_neg (by dsimp only; omega)]
                          exact ⟨_, [], hs.done, rfl, rfl⟩
      · -- arity 1
        refine O_y hs (Y_cmpT rfl rfl rfl (by omega) ?_)
        refine O_y hs (Y_move rfl ?_)
        refine O_yy 22 hs rfl rfl (Y_move rfl ?_)
        refine O_yy 22 hs rfl rfl (Y_fieldAddr FO28_2 rfl (m := 5) rfl ?_)
        refine O_yy 22 hs rfl rfl (Y_ld 1 Tryd.isAgg3 rfl rfl rfl ?_)
        refine O_yes 22 rfl rfl (S_callV (args := [_]) (lb := [_]) (H1 := [_]) hs rfl rfl Tryd.func24 rfl (by kernel_rfl) (in_ok (x := ll)) fun v2 G' H' _ hR hG26 hs => ?_)
        obtain ⟨rfl, rfl⟩ := hR
        replace hs : St _ _ [_, _] _ := hs
        cases h26 : decide (0 ≤ ll ∧ ll < (i : Int))
        · -- h26: False
          refine O_yy 22 hs rfl rfl (Y_not rfl ?_)
          refine O_y hs (Y_pickT rfl rfl ?_)
          refine O_y hs (Y_assign rfl ?_)
          refine O_nil (T_sub [(2, _), (5, _), (6, _), (19, _)] ⟨rfl, rfl, rfl, rfl, trivial⟩ ?_)
          refine T_condT rfl (T_skip ?_)
          refine T_condT rfl (T_seq (T_region rfl ?_))
          refine O_y hs (Y_assign rfl ?_)
          refine O_nil (T_sub [(4, _)] ⟨rfl, trivial⟩ ?_)
          refine T_ret ?_
          refine Rt_fin (vs := [_]) Tryd.results14 rfl ⟨rfl, trivial⟩ ?_
          try dsimp only [tup]
          unfold nodeE; rw [if_neg (by dsimp only; omega)]
          rw [if_pos (fun h => by have h1 := h.1; rw [if_pos (by dsimp only; omega)] at h1; exact of_decide_eq_false h26 h1)]
          exact ⟨_, [], hs.done, rfl, rfl⟩
        · -- h26: True
          refine O_yy 22 hs rfl rfl (Y_not rfl ?_)
          refine O_y hs (Y_pickT rfl rfl ?_)
          refine O_y hs (Y_assign rfl ?_)
          refine O_nil (T_sub [(2, _), (5, _), (6, _), (19, _)] ⟨rfl, rfl, rfl, rfl, trivial⟩ ?_)
          refine T_condF rfl (T_seq (T_region rfl ?_))
          refine O_y hs (Y_move rfl ?_)
          refine O_y hs (Y_cmpF rfl rfl rfl (by omega) ?_)
          refine O_y hs (Y_move rfl ?_)
          refine O_no 31 rfl rfl ?_
          refine O_no 31 rfl rfl ?_
          refine O_no 31 rfl rfl ?_
          refine O_y hs (Y_pickF rfl rfl ?_)
          refine O_y hs (Y_assign rfl ?_)
          refine O_nil (T_sub [(2, _), (5, _), (6, _), (19, _)] ⟨rfl, rfl, rfl, rfl, trivial⟩ ?_)
          refine T_condF rfl (T_seq (T_region rfl ?_))
          refine O_y hs (Y_move rfl ?_)
          refine O_y hs (Y_cmpF rfl rfl rfl (by omega) ?_)
          refine O_y hs (Y_move rfl ?_)
          refine O_no 38 rfl rfl ?_
          refine O_no 38 rfl rfl ?_
          refine O_no 38 rfl rfl ?_
          refine O_no 38 rfl rfl ?_
          refine O_no 38 rfl rfl ?_
          refine O_y hs (Y_pickF rfl rfl ?_)
          refine O_y hs (Y_assign rfl ?_)
          refine O_nil (T_sub [(2, _), (6, _), (19, _)] ⟨rfl, rfl, rfl, trivial⟩ ?_)
          refine T_condF rfl (T_region rfl ?_)
          refine O_y hs (Y_move rfl ?_)
          refine O_y hs (Y_cmpT rfl rfl rfl (by omega) ?_)
          refine O_y hs (Y_move rfl ?_)
          refine O_yy 47 hs rfl rfl (Y_fieldAddr FO28_3 rfl (m := 6) rfl ?_)
          refine O_yy 47 hs rfl rfl (Y_ld 1 Tryd.isAgg3 rfl rfl rfl ?_)
          refine O_yy 47 hs rfl rfl (Y_cmpS rfl rfl rfl (fun h50 => ?_) (fun h50 => ?_))
          · -- h50: True
            dsimp only [cmpP] at h50
            refine O_y hs (Y_pickT rfl rfl ?_)
            refine O_y hs (Y_assign rfl ?_)
            refine O_nil (T_sub [(2, _), (19, _)] ⟨rfl, rfl, trivial⟩ ?_)
            refine T_condT rfl (T_seq (T_region rfl ?_))
            refine O_y hs (Y_assign rfl ?_)
            refine O_nil (T_sub [(4, _)] ⟨rfl, trivial⟩ ?_)
            refine T_ret ?_
            refine Rt_fin (vs := [_]) Tryd.results14 rfl ⟨rfl, trivial⟩ ?_
            try dsimp only [tup]
            unfold nodeE; rw [if_neg (by dsimp only; omega)]
            rw [if_pos (fun h => by have h1 := h.2; rw [if_neg (by dsimp only; omega)] at h1; dsimp only at h1; omega)]
            exact ⟨_, [], hs.done, rfl, rfl⟩
          · -- h50: False
            dsimp only [cmpP] at h50
            refine O_y hs (Y_pickT rfl rfl ?_)
            refine O_y hs (Y_assign rfl ?_)
            refine O_nil (T_sub [(2, _), (19, _)] ⟨rfl, rfl, trivial⟩ ?_)
            refine T_condF rfl (T_seq (T_region rfl ?_))
            refine O_y hs (Y_fieldAddr FO28_0 rfl (m := 0) rfl ?_)
            refine O_y hs (Y_ld 1 Tryd.isAgg3 rfl rfl rfl ?_)
            refine O_y hs (Y_cmpS rfl rfl rfl (fun h55 => ?_) (fun h55 => ?_))
            · -- h55: True
              dsimp only [cmpP] at h55
              refine O_y hs (Y_move rfl ?_)
              refine O_yy 56 hs rfl rfl (Y_fieldAddr FO28_1 rfl (m := 1) rfl ?_)
              refine O_yy 56 hs rfl rfl (Y_ldA 1 Tryd.isAgg24 Tryd.sizeOf24 rfl rfl (vs := [_, _, _, _]) rfl rfl ?_)
              refine O_yy 56 hs rfl rfl (Y_buildA Tryd.underlying24 Tryd.sizeOf22 Tryd.zeroValue24 rfl rfl (cs := [_, _, _, _]) rfl ?_)
              refine O_yy 56 hs rfl rfl (Y_neqWS (a := [c0, c1, c2, c3]) (b := [0, 0, 0, 0]) Tryd.underlying24 Tryd.sizeOf22 Tryd.isAgg22 Tryd.underlying22 rfl rfl rfl rfl rfl hc.2 (by decide) (fun h60 => ?_) (fun h60 => ?_))
              · -- h60: True
                refine O_y hs (Y_pickT rfl rfl ?_)
                refine O_y hs (Y_assign rfl ?_)
                refine O_nil (T_sub [(2, _), (52, _)] ⟨rfl, rfl, trivial⟩ ?_)
                refine T_condT rfl (T_seq (T_region rfl ?_))
                refine O_y hs (Y_assign rfl ?_)
                refine O_nil (T_sub [(4, _)] ⟨rfl, trivial⟩ ?_)
                refine T_ret ?_
                refine Rt_fin (vs := [_]) Tryd.results14 rfl ⟨rfl, trivial⟩ ?_
                try dsimp only [tup]
                unfold nodeE; rw [if_neg (by dsimp only; omega)]
                rw [if_neg (fun h => h ⟨by rw [if_pos (by dsimp only; omega)]; exact of_decide_eq_true h26, by rw [if_neg (by dsimp only; omega)]; dsimp only; omega⟩)]
                rw [if_pos ⟨by dsimp only; omega, h60⟩]
                exact ⟨_, [], hs.done, rfl, rfl⟩
              · -- h60: False
                refine O_y hs (Y_pickT rfl rfl ?_)
                refine O_y hs (Y_assign rfl ?_)
                refine O_nil (T_sub [(2, _), (52, _)] ⟨rfl, rfl, trivial⟩ ?_)
                refine T_condF rfl (T_seq (T_region rfl ?_))
                refine O_y hs (Y_fieldAddr FO28_0 rfl (m := 0) rfl ?_)
                refine O_y hs (Y_ld 1 Tryd.isAgg3 rfl rfl rfl ?_)
                refine O_y hs (Y_cmpS rfl rfl rfl (fun h65 => ?_) (fun h65 => ?_))
                · -- h65: True
                  dsimp only [cmpP] at h65
                  refine O_y hs (Y_assign rfl ?_)
                  refine O_nil (T_sub [(2, _), (62, _)] ⟨rfl, rfl, trivial⟩ ?_)
                  refine T_condT rfl (T_seq (T_seq (T_region rfl ?_)))
                  refine O_y hs (Y_fieldAddr FO28_4 rfl (m := 7) rfl ?_)
                  refine O_y hs (Y_ld 1 Tryd.isAgg3 rfl rfl rfl ?_)
                  refine O_y hs (Y_cmpS rfl rfl rfl (fun h68 => ?_) (fun h68 => ?_))
                  · -- h68: True
                    dsimp only [cmpP] at h68
                    refine O_y hs (Y_move rfl ?_)
                    refine O_no 69 rfl rfl ?_
                    refine O_no 69 rfl rfl ?_
                    refine O_no 69 rfl rfl ?_
                    refine O_y hs (Y_pickT rfl rfl ?_)
                    refine O_nil (T_sub [(73, _)] ⟨rfl, trivial⟩ ?_)
                    refine T_condT rfl (T_seq (T_region rfl ?_))
                    refine O_y hs (Y_assign rfl ?_)
                    refine O_nil (T_sub [(4, _)] ⟨rfl, trivial⟩ ?_)
                    refine T_ret ?_
                    refine Rt_fin (vs := [_]) Tryd.results14 rfl ⟨rfl, trivial⟩ ?_
                    try dsimp only [tup]
                    unfold nodeE; rw [if_neg (by dsimp only; omega)]
                    rw [if_neg (fun h => h ⟨by rw [if_pos (by dsimp only; omega)]; exact of_decide_eq_true h26, by rw [if_neg (by dsimp only; omega)]; dsimp only; omega⟩)]
                    rw [if_neg (fun h => h.2 h60)]
                    rw [if_pos (by dsimp only; omega), if_pos (by dsimp only; omega)]
                    exact ⟨_, [], hs.done, rfl, rfl⟩
                  · -- h68: False
                    dsimp only [cmpP] at h68
                    refine O_y hs (Y_move rfl ?_)
                    refine O_yy 69 hs rfl rfl (Y_fieldAddr FO28_5 rfl (m := 8) rfl ?_)
                    refine O_yy 69 hs rfl rfl (Y_ld 1 Tryd.isAgg3 rfl rfl rfl ?_)
                    refine O_yy 69 hs rfl rfl (Y_cmpS rfl rfl rfl (fun h72 => ?_) (fun h72 => ?_))
                    · -- h72: True
                      dsimp only [cmpP] at h72
                      refine O_y hs (Y_pickF rfl rfl ?_)
                      refine O_nil (T_sub [(73, _)] ⟨rfl, trivial⟩ ?_)
                      refine T_condT rfl (T_seq (T_region rfl ?_))
                      refine O_y hs (Y_assign rfl ?_)
                      refine O_nil (T_sub [(4, _)] ⟨rfl, trivial⟩ ?_)
                      refine T_ret ?_
                      refine Rt_fin (vs := [_]) Tryd.results14 rfl ⟨rfl, trivial⟩ ?_
                      try dsimp only [tup]
                      unfold nodeE; rw [if_neg (by dsimp only; omega)]
                      rw [if_neg (fun h => h ⟨by rw [if_pos (by dsimp only; omega)]; exact of_decide_eq_true h26, by rw [if_neg (by dsimp only; omega)]; dsimp only; omega⟩)]
                      rw [if_neg (fun h => h.2 h60)]
                      rw [if_pos (by dsimp only; omega), if_pos (by dsimp only; omega)]
                      exact ⟨_, [], hs.done, rfl, rfl⟩
                    · -- h72: False
                      dsimp only [cmpP] at h72
                      refine O_y hs (Y_pickF rfl rfl ?_)
                      refine O_nil (T_sub [(73, _)] ⟨rfl, trivial⟩ ?_)
                      refine T_condF rfl (T_skip ?_)
                      refine T_seq (T_region rfl ?_)
                      refine O_y hs (Y_assign rfl ?_)
                      refine O_nil (T_sub [(4, _)] ⟨rfl, trivial⟩ ?_)
                      refine T_ret ?_
                      refine Rt_fin (vs := [_]) Tryd.results14 rfl ⟨rfl, trivial⟩ ?_
                      try dsimp only [tup]
                      unfold nodeE; rw [if_neg (by dsimp only; omega)]
                      rw [if_neg (fun h => h ⟨by rw [if_pos (by dsimp only; omega)]; exact of_decide_eq_true h26, by rw [if_neg (by dsimp only; omega)]; dsimp only; omega⟩)]
                      rw [if_neg (fun h => h.2 h60)]
                      rw [if_pos (by dsimp only; omega), if_neg (by dsimp only; omega)]
                      exact ⟨_, [], hs.done, rfl, rfl⟩
                · -- h65: False
                  dsimp only [cmpP] at h65
                  refine O_y hs (Y_assign rfl ?_)
                  refine O_nil (T_sub [(2, _), (62, _)] ⟨rfl, rfl, trivial⟩ ?_)
                  refine T_condF rfl (T_seq (T_seq (T_region rfl ?_)))
                  refine O_y hs (Y_fieldAddr FO28_4 rfl (m := 7) rfl ?_)
                  refine O_y hs (Y_ld 1 Tryd.isAgg3 rfl rfl rfl ?_)
                  refine O_y hs (Y_cmpS rfl rfl rfl (fun h77 => ?_) (fun h77 => ?_))
                  · -- h77: True
                    dsimp only [cmpP] at h77
                    refine O_y hs (Y_assign rfl ?_)
                    refine O_nil (T_sub [(2, _), (74, _)] ⟨rfl, rfl, trivial⟩ ?_)
                    refine T_condT rfl (T_skip ?_)
                    refine T_condT rfl (T_seq (T_region rfl ?_))
                    refine O_y hs (Y_assign rfl ?_)
                    refine O_nil (T_sub [(4, _)] ⟨rfl, trivial⟩ ?_)
                    refine T_ret ?_
                    refine Rt_fin (vs := [_]) Tryd.results14 rfl ⟨rfl, trivial⟩ ?_
                    try dsimp only [tup]
                    unfold nodeE; rw [if_neg (by dsimp only; omega)]
                    rw [if_neg (fun h => h ⟨by rw [if_pos (by dsimp only; omega)]; exact of_decide_eq_true h26, by rw [if_neg (by dsimp only; omega)]; dsimp only; omega⟩)]
                    rw [if_neg (fun h => h.2 h60)]
                    rw [if_neg (by dsimp only; omega)]
                    rw [if_pos (by dsimp only; omega)]
                    exact ⟨_, [], hs.done, rfl, rfl⟩
                  · -- h77: False
                    dsimp only [cmpP] at h77
                    refine O_y hs (Y_assign rfl ?_)
                    refine O_nil (T_sub [(2, _), (74, _)] ⟨rfl, rfl, trivial⟩ ?_)
                    refine T_condF rfl (T_region rfl ?_)
                    refine O_y hs (Y_fieldAddr FO28_5 rfl (m := 8) rfl ?_)
                    refine O_y hs (Y_ld 1 Tryd.isAgg3 rfl rfl rfl ?_)
                    refine O_y hs (Y_cmpS rfl rfl rfl (fun h80 => ?_) (fun h80 => ?_))
                    · -- h80: True
                      dsimp only [cmpP] at h80
                      refine O_y hs (Y_assign rfl ?_)
                      refine O_nil (T_sub [(2, _), (74, _)] ⟨rfl, rfl, trivial⟩ ?_)
                      refine T_condT rfl (T_seq (T_region rfl ?_))
                      refine O_y hs (Y_assign rfl ?_)
                      refine O_nil (T_sub [(4, _)] ⟨rfl, trivial⟩ ?_)
                      refine T_ret ?_
                      refine Rt_fin (vs := [_]) Tryd.results14 rfl ⟨rfl, trivial⟩ ?_
                      try dsimp only [tup]
                      unfold nodeE; rw [if_neg (by dsimp only; omega)]
                      rw [if_neg (fun h => h ⟨by rw [if_pos (by dsimp only; omega)]; exact of_decide_eq_true h26, by rw [if_neg (by dsimp only; omega)]; dsimp only; omega⟩)]
                      rw [if_neg (fun h => h.2 h60)]
                      rw [if_neg (by dsimp only; omega)]
                      rw [if_pos (by dsimp only; omega)]
                      exact ⟨_, [], hs.done, rfl, rfl⟩
                    · -- h80: False
                      dsimp only [cmpP] at h80
                      refine O_y hs (Y_assign rfl ?_)
                      refine O_nil (T_sub [(2, _), (74, _)] ⟨rfl, rfl, trivial⟩ ?_)
                      refine T_condF rfl (T_seq (T_seq (T_region rfl ?_)))
                      refine O_y hs (Y_fieldAddr FO28_4 rfl (m := 7) rfl ?_)
                      refine O_y hs (Y_ld 1 Tryd.isAgg3 rfl rfl rfl ?_)
                      refine O_y hs (Y_cmpS rfl rfl rfl (fun h84 => ?_) (fun h84 => ?_))
                      · -- h84: True
                        dsimp only [cmpP] at h84
                        refine O_y hs (Y_assign rfl ?_)
                        refine O_nil (T_sub [(2, _), (81, _)] ⟨rfl, rfl, trivial⟩ ?_)
                        refine T_condT rfl (T_skip ?_)
                        refine T_condT rfl (T_seq (T_region rfl ?_))
                        refine O_y hs (Y_assign rfl ?_)
                        refine O_nil (T_sub [(4, _)] ⟨rfl, trivial⟩ ?_)
                        refine T_ret ?_
                        refine Rt_fin (vs := [_]) Tryd.results14 rfl ⟨rfl, trivial⟩ ?_
                        try dsimp only [tup]
                        unfold nodeE; rw [if_neg (by dsimp only; omega)]
                        rw [if_neg (fun h => h ⟨by rw [if_pos (by dsimp only; omega)]; exact of_decide_eq_true h26, by rw [if_neg (by dsimp only; omega)]; dsimp only; omega⟩)]
                        rw [if_neg (fun h => h.2 h60)]
                        rw [if_neg (by dsimp only; omega)]
                        rw [if_neg (by dsimp only; omega)]
                        rw [if_pos (by dsimp only; omega)]
                        exact ⟨_, [], hs.done, rfl, rfl⟩
                      · -- h84: False
                        dsimp only [cmpP] at h84
                        refine O_y hs (Y_assign rfl ?_)
                        refine O_nil (T_sub [(2, _), (81, _)] ⟨rfl, rfl, trivial⟩ ?_)
                        refine T_condF rfl (T_region rfl ?_)
                        refine O_y hs (Y_fieldAddr FO28_5 rfl (m := 8) rfl ?_)
                        refine O_y hs (Y_ld 1 Tryd.isAgg3 rfl rfl rfl ?_)
                        refine O_y hs (Y_cmpS rfl rfl rfl (fun h87 => ?_) (fun h87 => ?_))
                        · -- h87: True
                          dsimp only [cmpP] at h87
                          refine O_y hs (Y_assign rfl ?_)
                          refine O_nil (T_sub [(2, _), (81, _)] ⟨rfl, rfl, trivial⟩ ?_)
                          refine T_condT rfl (T_seq (T_region rfl ?_))
                          refine O_y hs (Y_assign rfl ?_)
                          refine O_nil (T_sub [(4, _)] ⟨rfl, trivial⟩ ?_)
                          refine T_ret ?_
                          refine Rt_fin (vs := [_]) Tryd.results14 rfl ⟨rfl, trivial⟩ ?_
                          try dsimp only [tup]
                          unfold nodeE; rw [if_neg (by dsimp only; omega)]
                          rw [if_neg (fun h => h ⟨by rw [if_pos (by dsimp only; omega)]; exact of_decide_eq_true h26, by rw [if_neg (by dsimp only; omega)]; dsimp only; omega⟩)]
                          rw [if_neg (fun h => h.2 h60)]
                          rw [if_neg (by dsimp only; omega)]
                          rw [if_neg (by dsimp only; omega)]
                          rw [if_pos (by dsimp only; omega)]
                          exact ⟨_, [], hs.done, rfl, rfl⟩
                        · -- h87: False
                          dsimp only [cmpP] at h87
                          refine O_y hs (Y_assign rfl ?_)
                          refine O_nil (T_sub [(2, _), (81, _)] ⟨rfl, rfl, trivial⟩ ?_)
                          refine T_condF rfl (T_seq (T_region rfl ?_))
                          refine O_y hs (Y_fieldAddr FO28_5 rfl (m := 8) rfl ?_)
                          refine O_y hs (Y_ld 1 Tryd.isAgg3 rfl rfl rfl ?_)
                          refine O_y hs (Y_cmpS rfl rfl rfl (fun h91 => ?_) (fun h91 => ?_))
                          · -- h91: True
                            dsimp only [cmpP] at h91
                            refine O_y hs (Y_move rfl ?_)
                            refine O_yy 92 hs rfl rfl (Y_fieldAddr FO28_5 rfl (m := 8) rfl ?_)
                            refine O_yy 92 hs rfl rfl (Y_ld 1 Tryd.isAgg3 rfl rfl rfl ?_)
                            refine O_yy 92 hs rfl rfl (Y_fieldAddr FO28_4 rfl (m := 7) rfl ?_)
                            refine O_yy 92 hs rfl rfl (Y_ld 1 Tryd.isAgg3 rfl rfl rfl ?_)
                            refine O_yy 92 hs rfl rfl (Y_cmpS rfl rfl rfl (fun h97 => ?_) (fun h97 => ?_))
                            · -- h97: True
                              dsimp only [cmpP] at h97
                              refine O_y hs (Y_pickT rfl rfl ?_)
                              refine O_y hs (Y_assign rfl ?_)
                              refine O_nil (T_sub [(88, _)] ⟨rfl, trivial⟩ ?_)
                              refine T_condT rfl (T_seq (T_region rfl ?_))
                              refine O_y hs (Y_assign rfl ?_)
                              refine O_nil (T_sub [(4, _)] ⟨rfl, trivial⟩ ?_)
                              refine T_ret ?_
                              refine Rt_fin (vs := [_]) Tryd.results14 rfl ⟨rfl, trivial⟩ ?_
                              try dsimp only [tup]
                              unfold nodeE; rw [if_neg (by dsimp only; omega)]
                              rw [if_neg (fun h => h ⟨by rw [if_pos (by dsimp only; omega)]; exact of_decide_eq_true h26, by rw [if_neg (by dsimp only; omega)]; dsimp only; omega⟩)]
                              rw [if_neg (fun h => h.2 h60)]
                              rw [if_neg (by dsimp only; omega)]
                              rw [if_neg (by dsimp only; omega)]
                              rw [if_neg (by dsimp only; omega)]
                              rw [if_pos (by dsimp only; omega)]
                              exact ⟨_, [], hs.done, rfl, rfl⟩
                            · -- h97: False
                              dsimp only [cmpP] at h97
                              refine O_y hs (Y_pickT rfl rfl ?_)
                              refine O_y hs (Y_assign rfl ?_)
                              refine O_nil (T_sub [(88, _)] ⟨rfl, trivial⟩ ?_)
                              refine T_condF rfl (T_skip ?_)
                              refine T_seq (T_region rfl ?_)
                              refine O_y hs (Y_assign rfl ?_)
                              refine O_nil (T_sub [(4, _)] ⟨rfl, trivial⟩ ?_)
                              refine T_ret ?_
                              refine Rt_fin (vs := [_]) Tryd.results14 rfl ⟨rfl, trivial⟩ ?_
                              try dsimp only [tup]
                              unfold nodeE; rw [if_neg (by dsimp only; omega)]
                              rw [if_neg (fun h => h ⟨by rw [if_pos (by dsimp only; omega)]; exact of_decide_eq_true h26, by rw [if_neg (by dsimp only; omega)]; dsimp only; omega⟩)]
                              rw [if_neg (fun h => h.2 h60)]
                              rw [if_neg (by dsimp only; omega)]
                              rw [if_neg (by dsimp only; omega)]
                              rw [if_neg (by dsimp only; omega)]
                              rw [if_neg (by dsimp only; omega)]
                              exact ⟨_, [], hs.done, rfl, rfl⟩
                          · -- h91: False
                            dsimp only [cmpP] at h91
                            refine O_y hs (Y_move rfl ?_)
                            refine O_no 92 rfl rfl ?_
                            refine O_no 92 rfl rfl ?_
                            refine O_no 92 rfl rfl ?_
                            refine O_no 92 rfl rfl ?_
                            refine O_no 92 rfl rfl ?_
                            refine O_y hs (Y_pickF rfl rfl ?_)
                            refine O_y hs (Y_assign rfl ?_)
                            refine O_nil (T_sub [(88, _)] ⟨rfl, trivial⟩ ?_)
                            refine T_condF rfl (T_skip ?_)
                            refine T_seq (T_region rfl ?_)
                            refine O_y hs (Y_assign rfl ?_)
                            refine O_nil (T_sub [(4, _)] ⟨rfl, trivial⟩ ?_)
                            refine T_ret ?_
                            refine Rt_fin (vs := [_]) Tryd.results14 rfl ⟨rfl, trivial⟩ ?_
                            try dsimp only [tup]
                            unfold nodeE; rw [if_neg (by dsimp only; omega)]
                            rw [if_neg (fun h => h ⟨by rw [if_pos (by dsimp only; omega)]; exact of_decide_eq_true h26, by rw [if_neg (by dsimp only; omega)]; dsimp only; omega⟩)]
                            rw [if_neg (fun h => h.2 h60)]
                            rw [if_neg (by dsimp only; omega)]
                            rw [if_neg (by dsimp only; omega)]
                            rw [if_neg (by dsimp only; omega)]
                            rw [if_neg (by dsimp only; omega)]
                            exact ⟨_, [], hs.done, rfl, rfl⟩
            · -- h55: False
              dsimp only [cmpP] at h55
              refine O_y hs (Y_move rfl ?_)
              refine O_no 56 rfl rfl ?_
              refine O_no 56 rfl rfl ?_
              refine O_no 56 rfl rfl ?_
              refine O_no 56 rfl rfl ?_
              refine O_y hs (Y_pickF rfl rfl ?_)
              refine O_y hs (Y_assign rfl ?_)
              refine O_nil (T_sub [(2, _), (52, _)] ⟨rfl, rfl, trivial⟩ ?_)
              refine T_condF rfl (T_seq (T_region rfl ?_))
              refine O_y hs (Y_fieldAddr FO28_0 rfl (m := 0) rfl ?_)
              refine O_y hs (Y_ld 1 Tryd.isAgg3 rfl rfl rfl ?_)
              refine O_y hs (Y_cmpS rfl rfl rfl (fun h65 => ?_) (fun h65 => ?_))
              · -- h65: True
                dsimp only [cmpP] at h65
                refine O_y hs (Y_assign rfl ?_)
                refine O_nil (T_sub [(2, _), (62, _)] ⟨rfl, rfl, trivial⟩ ?_)
                refine T_condT rfl (T_seq (T_seq (T_region rfl ?_)))
                refine O_y hs (Y_fieldAddr FO28_4 rfl (m := 7) rfl ?_)
                refine O_y hs (Y_ld 1 Tryd.isAgg3 rfl rfl rfl ?_)
                refine O_y hs (Y_cmpS rfl rfl rfl (fun h68 => ?_) (fun h68 => ?_))
                · -- h68: True
                  dsimp only [cmpP] at h68
                  refine O_y hs (Y_move rfl ?_)
                  refine O_no 69 rfl rfl ?_
                  refine O_no 69 rfl rfl ?_
                  refine O_no 69 rfl rfl ?_
                  refine O_y hs (Y_pickT rfl rfl ?_)
                  refine O_nil (T_sub [(73, _)] ⟨rfl, trivial⟩ ?_)
                  refine T_condT rfl (T_seq (T_region rfl ?_))
                  refine O_y hs (Y_assign rfl ?_)
                  refine O_nil (T_sub [(4, _)] ⟨rfl, trivial⟩ ?_)
                  refine T_ret ?_
                  refine Rt_fin (vs := [_]) Tryd.results14 rfl ⟨rfl, trivial⟩ ?_
                  try dsimp only [tup]
                  unfold nodeE; rw [if_neg (by dsimp only; omega)]
                  rw [if_neg (fun h => h ⟨by rw [if_pos (by dsimp only; omega)]; exact of_decide_eq_true h26, by rw [if_neg (by dsimp only; omega)]; dsimp only; omega⟩)]
                  rw [if_neg (fun h => absurd h.1 (by dsimp only; omega))]
                  rw [if_pos (by dsimp only; omega), if_pos (by dsimp only; omega)]
                  exact ⟨_, [], hs.done, rfl, rfl⟩
                · -- h68: False
                  dsimp only [cmpP] at h68
                  refine O_y hs (Y_move rfl ?_)
                  refine O_yy 69 hs rfl rfl (Y_fieldAddr FO28_5 rfl (m := 8) rfl ?_)
                  refine O_yy 69 hs rfl rfl (Y_ld 1 Tryd.isAgg3 rfl rfl rfl ?_)
                  refine O_yy 69 hs rfl rfl (Y_cmpS rfl rfl rfl (fun h72 => ?_) (fun h72 => ?_))
                  · -- h72: True
                    dsimp only [cmpP] at h72
                    refine O_y hs (Y_pickF rfl rfl ?_)
                    refine O_nil (T_sub [(73, _)] ⟨rfl, trivial⟩ ?_)
                    refine T_condT rfl (T_seq (T_region rfl ?_))
                    refine O_y hs (Y_assign rfl ?_)
                    refine O_nil (T_sub [(4, _)] ⟨rfl, trivial⟩ ?_)
                    refine T_ret ?_
                    refine Rt_fin (vs := [_]) Tryd.results14 rfl ⟨rfl, trivial⟩ ?_
                    try dsimp only [tup]
                    unfold nodeE; rw [if_neg (by dsimp only; omega)]
                    rw [if_neg (fun h => h ⟨by rw [if_pos (by dsimp only; omega)]; exact of_decide_eq_true h26, by rw [if_neg (by dsimp only; omega)]; dsimp only; omega⟩)]
                    rw [if_neg (fun h => absurd h.1 (by dsimp only; omega))]
                    rw [if_pos (by dsimp only; omega), if_pos (by dsimp only; omega)]
                    exact ⟨_, [], hs.done, rfl, rfl⟩
                  · -- h72: False
                    dsimp only [cmpP] at h72
                    refine O_y hs (Y_pickF rfl rfl ?_)
                    refine O_nil (T_sub [(73, _)] ⟨rfl, trivial⟩ ?_)
                    refine T_condF rfl (T_skip ?_)
                    refine T_seq (T_region rfl ?_)
                    refine O_y hs (Y_assign rfl ?_)
                    refine O_nil (T_sub [(4, _)] ⟨rfl, trivial⟩ ?_)
                    refine T_ret ?_
                    refine Rt_fin (vs := [_]) Tryd.results14 rfl ⟨rfl, trivial⟩ ?_
                    try dsimp only [tup]
                    unfold nodeE; rw [if_neg (by dsimp only; omega)]
                    rw [if_neg (fun h => h ⟨by rw [if_pos (by dsimp only; omega)]; exact of_decide_eq_true h26, by rw [if_neg (by dsimp only; omega)]; dsimp only; omega⟩)]
                    rw [if_neg (fun h => absurd h.1 (by dsimp only; omega))]
                    rw [if_pos (by dsimp only; omega), if_neg (by dsimp only; omega)]
                    exact ⟨_, [], hs.done, rfl, rfl⟩
              · -- h65: False
                dsimp only [cmpP] at h65
                refine O_y hs (Y_assign rfl ?_)
                refine O_nil (T_sub [(2, _), (62, _)] ⟨rfl, rfl, trivial⟩ ?_)
                refine T_condF rfl (T_seq (T_seq (T_region rfl ?_)))
                refine O_y hs (Y_fieldAddr FO28_4 rfl (m := 7) rfl ?_)
                refine O_y hs (Y_ld 1 Tryd.isAgg3 rfl rfl rfl ?_)
                refine O_y hs (Y_cmpS rfl rfl rfl (fun h77 => ?_) (fun h77 => ?_))
                · -- h77: True
                  dsimp only [cmpP] at h77
                  refine O_y hs (Y_assign rfl ?_)
                  refine O_nil (T_sub [(2, _), (74, _)] ⟨rfl, rfl, trivial⟩ ?_)
                  refine T_condT rfl (T_skip ?_)
                  refine T_condT rfl (T_seq (T_region rfl ?_))
                  refine O_y hs (Y_assign rfl ?_)
                  refine O_nil (T_sub [(4, _)] ⟨rfl, trivial⟩ ?_)
                  refine T_ret ?_
                  refine Rt_fin (vs := [_]) Tryd.results14 rfl ⟨rfl, trivial⟩ ?_
                  try dsimp only [tup]
                  unfold nodeE; rw [if_neg (by dsimp only; omega)]
                  rw [if_neg (fun h => h ⟨by rw [if_pos (by dsimp only; omega)]; exact of_decide_eq_true h26, by rw [if_neg (by dsimp only; omega)]; dsimp only; omega⟩)]
                  rw [if_neg (fun h => absurd h.1 (by dsimp only; omega))]
                  rw [if_neg (by dsimp only; omega)]
                  rw [if_pos (by dsimp only; omega)]
                  exact ⟨_, [], hs.done, rfl, rfl⟩
                · -- h77: False
                  dsimp only [cmpP] at h77
                  refine O_y hs (Y_assign rfl ?_)
                  refine O_nil (T_sub [(2, _), (74, _)] ⟨rfl, rfl, trivial⟩ ?_)
                  refine T_condF rfl (T_region rfl ?_)
                  refine O_y hs (Y_fieldAddr FO28_5 rfl (m := 8) rfl ?_)
                  refine O_y hs (Y_ld 1 Tryd.isAgg3 rfl rfl rfl ?_)
                  refine O_y hs (Y_cmpS rfl rfl rfl (fun h80 => ?_) (fun h80 => ?_))
                  · -- h80: True
                    dsimp only [cmpP] at h80
                    refine O_y hs (Y_assign rfl ?_)
                    refine O_nil (T_sub [(2, _), (74, _)] ⟨rfl, rfl, trivial⟩ ?_)
                    refine T_condT rfl (T_seq (T_region rfl ?_))
                    refine O_y hs (Y_assign rfl ?_)
                    refine O_nil (T_sub [(4, _)] ⟨rfl, trivial⟩ ?_)
                    refine T_ret ?_
                    refine Rt_fin (vs := [_]) Tryd.results14 rfl ⟨rfl, trivial⟩ ?_
                    try dsimp only [tup]
                    unfold nodeE; rw [if_neg (by dsimp only; omega)]
                    rw [if_neg (fun h => h ⟨by rw [if_pos (by dsimp only; omega)]; exact of_decide_eq_true h26, by rw [if_neg (by dsimp only; omega)]; dsimp only; omega⟩)]
                    rw [if_neg (fun h => absurd h.1 (by dsimp only; omega))]
                    rw [if_neg (by dsimp only; omega)]
                    rw [if_pos (by dsimp only; omega)]
                    exact ⟨_, [], hs.done, rfl, rfl⟩
                  · -- h80: False
                    dsimp only [cmpP] at h80
                    refine O_y hs (Y_assign rfl ?_)
                    refine O_nil (T_sub [(2, _), (74, _)] ⟨rfl, rfl, trivial⟩ ?_)
                    refine T_condF rfl (T_seq (T_seq (T_region rfl ?_)))
                    refine O_y hs (Y_fieldAddr FO28_4 rfl (m := 7) rfl ?_)
                    refine O_y hs (Y_ld 1 Tryd.isAgg3 rfl rfl rfl ?_)
                    refine O_y hs (Y_cmpS rfl rfl rfl (fun h84 => ?_) (fun h84 => ?_))
                    · -- h84: True
                      dsimp only [cmpP] at h84
                      refine O_y hs (Y_assign rfl ?_)
                      refine O_nil (T_sub [(2, _), (81, _)] ⟨rfl, rfl, trivial⟩ ?_)
                      refine T_condT rfl (T_skip ?_)
                      refine T_condT rfl (T_seq (T_region rfl ?_))
                      refine O_y hs (Y_assign rfl ?_)
                      refine O_nil (T_sub [(4, _)] ⟨rfl, trivial⟩ ?_)
                      refine T_ret ?_
                      refine Rt_fin (vs := [_]) Tryd.results14 rfl ⟨rfl, trivial⟩ ?_
                      try dsimp only [tup]
                      unfold nodeE; rw [if_neg (by dsimp only; omega)]
                      rw [if_neg (fun h => h ⟨by rw [if_pos (by dsimp only; omega)]; exact of_decide_eq_true h26, by rw [if_neg (by dsimp only; omega)]; dsimp only; omega⟩)]
                      rw [if_neg (fun h => absurd h.1 (by dsimp only; omega))]
                      rw [if_neg (by dsimp only; omega)]
                      rw [if_neg (by dsimp only; omega)]
                      rw [if_pos (by dsimp only; omega)]
                      exact ⟨_, [], hs.done, rfl, rfl⟩
                    · -- h84: False
                      dsimp only [cmpP] at h84
                      refine O_y hs (Y_assign rfl ?_)
                      refine O_nil (T_sub [(2, _), (81, _)] ⟨rfl, rfl, trivial⟩ ?_)
                      refine T_condF rfl (T_region rfl ?_)
                      refine O_y hs (Y_fieldAddr FO28_5 rfl (m := 8) rfl ?_)
                      refine O_y hs (Y_ld 1 Tryd.isAgg3 rfl rfl rfl ?_)
                      refine O_y hs (Y_cmpS rfl rfl rfl (fun h87 => ?_) (fun h87 => ?_))
                      · -- h87: True
                        dsimp only [cmpP] at h87
                        refine O_y hs (Y_assign rfl ?_)
                        refine O_nil (T_sub [(2, _), (81, _)] ⟨rfl, rfl, trivial⟩ ?_)
                        refine T_condT rfl (T_seq (T_region rfl ?_))
                        refine O_y hs (Y_assign rfl ?_)
                        refine O_nil (T_sub [(4, _)] ⟨rfl, trivial⟩ ?_)
                        refine T_ret ?_
                        refine Rt_fin (vs := [_]) Tryd.results14 rfl ⟨rfl, trivial⟩ ?_
                        try dsimp only [tup]
                        unfold nodeE; rw [if_neg (by dsimp only; omega)]
                        rw [if_neg (fun h => h ⟨by rw [if_pos (by dsimp only; omega)]; exact of_decide_eq_true h26, by rw [if_neg (by dsimp only; omega)]; dsimp only; omega⟩)]
                        rw [if_neg (fun h => absurd h.1 (by dsimp only; omega))]
                        rw [if_neg (by dsimp only; omega)]
                        rw [if_neg (by dsimp only; omega)]
                        rw [if_pos (by dsimp only; omega)]
                        exact ⟨_, [], hs.done, rfl, rfl⟩
                      · -- h87: False
                        dsimp only [cmpP] at h87
                        refine O_y hs (Y_assign rfl ?_)
                        refine O_nil (T_sub [(2, _), (81, _)] ⟨rfl, rfl, trivial⟩ ?_)
                        refine T_condF rfl (T_seq (T_region rfl ?_))
                        refine O_y hs (Y_fieldAddr FO28_5 rfl (m := 8) rfl ?_)
                        refine O_y hs (Y_ld 1 Tryd.isAgg3 rfl rfl rfl ?_)
                        refine O_y hs (Y_cmpS rfl rfl rfl (fun h91 => ?_) (fun h91 => ?_))
                        · -- h91: True
                          dsimp only [cmpP] at h91
                          refine O_y hs (Y_move rfl ?_)
                          refine O_yy 92 hs rfl rfl (Y_fieldAddr FO28_5 rfl (m := 8) rfl ?_)
                          refine O_yy 92 hs rfl rfl (Y_ld 1 Tryd.isAgg3 rfl rfl rfl ?_)
                          refine O_yy 92 hs rfl rfl (Y_fieldAddr FO28_4 rfl (m := 7) rfl ?_)
                          refine O_yy 92 hs rfl rfl (Y_ld 1 Tryd.isAgg3 rfl rfl rfl ?_)
                          refine O_yy 92 hs rfl rfl (Y_cmpS rfl rfl rfl (fun h97 => ?_) (fun h97 => ?_))
                          · -- h97: True
                            dsimp only [cmpP] at h97
                            refine O_y hs (Y_pickT rfl rfl ?_)
                            refine O_y hs (Y_assign rfl ?_)
                            refine O_nil (T_sub [(88, _)] ⟨rfl, trivial⟩ ?_)
                            refine T_condT rfl (T_seq (T_region rfl ?_))
                            refine O_y hs (Y_assign rfl ?_)
                            refine O_nil (T_sub [(4, _)] ⟨rfl, trivial⟩ ?_)
                            refine T_ret ?_
                            refine Rt_fin (vs := [_]) Tryd.results14 rfl ⟨rfl, trivial⟩ ?_
                            try dsimp only [tup]
                            unfold nodeE; rw [if_neg (by dsimp only; omega)]
                            rw [if_neg (fun h => h ⟨by rw [if_pos (by dsimp only; omega)]; exact of_decide_eq_true h26, by rw [if_neg (by dsimp only; omega)]; dsimp only; omega⟩)]
                            rw [if_neg (fun h => absurd h.1 (by dsimp only; omega))]
                            rw [if_neg (by dsimp only; omega)]
                            rw [if_neg (by dsimp only; omega)]
                            rw [if_neg (by dsimp only; omega)]
                            rw [if_pos (by dsimp only; omega)]
                            exact ⟨_, [], hs.done, rfl, rfl⟩
                          · -- h97: False
                            dsimp only [cmpP] at h97
                            refine O_y hs (Y_pickT rfl rfl ?_)
                            refine O_y hs (Y_assign rfl ?_)
                            refine O_nil (T_sub [(88, _)] ⟨rfl, trivial⟩ ?_)
                            refine T_condF rfl (T_skip ?_)
                            refine T_seq (T_region rfl ?_)
                            refine O_y hs (Y_assign rfl ?_)
                            refine O_nil (T_sub [(4, _)] ⟨rfl, trivial⟩ ?_)
                            refine T_ret ?_
                            refine Rt_fin (vs := [_]) Tryd.results14 rfl ⟨rfl, trivial⟩ ?_
                            try dsimp only [tup]
                            unfold nodeE; rw [if_neg (by dsimp only; omega)]
                            rw [if_neg (fun h => h ⟨by rw [if_pos (by dsimp only; omega)]; exact of_decide_eq_true h26, by rw [if_neg (by dsimp only; omega)]; dsimp only; omega⟩)]
                            rw [if_neg (fun h => absurd h.1 (by dsimp only; omega))]
                            rw [if_neg (by dsimp only; omega)]
                            rw [if_neg (by dsimp only; omega)]
                            rw [if_neg (by dsimp only; omega)]
                            rw [if_neg (by dsimp only; omega)]
                            exact ⟨_, [], hs.done, rfl, rfl⟩
                        · -- h91: False
                          dsimp only [cmpP] at h91
                          refine O_y hs (Y_move rfl ?_)
                          refine O_no 92 rfl rfl ?_
                          refine O_no 92 rfl rfl ?_
                          refine O_no 92 rfl rfl ?_
                          refine O_no 92 rfl rfl ?_
                          refine O_no 92 rfl rfl ?_
                          refine O_y hs (Y_pickF rfl rfl ?_)
                          refine O_y hs (Y_assign rfl ?_)
                          refine O_nil (T_sub [(88, _)] ⟨rfl, trivial⟩ ?_)
                          refine T_condF rfl (T_skip ?_)
                          refine T_seq (T_region rfl ?_)
                          refine O_y hs (Y_assign rfl ?_)
                          refine O_nil (T_sub [(4, _)] ⟨rfl, trivial⟩ ?_)
                          refine T_ret ?_
                          refine Rt_fin (vs := [_]) Tryd.results14 rfl ⟨rfl, trivial⟩ ?_
                          try dsimp only [tup]
                          unfold nodeE; rw [if_neg (by dsimp only; omega)]
                          rw [if_neg (fun h => h ⟨by rw [if_pos (by dsimp only; omega)]; exact of_decide_eq_true h26, by rw [if_neg (by dsimp only; omega)]; dsimp only; omega⟩)]
                          rw [if_neg (fun h => absurd h.1 (by dsimp only; omega))]
                          rw [if_neg (by dsimp only; omega)]
                          rw [if_neg (by dsimp only; omega)]
                          rw [if_neg (by dsimp only; omega)]
                          rw [if_neg (by dsimp only; omega)]
                          exact ⟨_, [], hs.done, rfl, rfl⟩
      · -- arity 2
        refine O_y hs (Y_cmpT rfl rfl rfl (by omega) ?_)
        refine O_y hs (Y_move rfl ?_)
        refine O_yy 22 hs rfl rfl (Y_move rfl ?_)
        refine O_yy 22 hs rfl rfl (Y_fieldAddr FO28_2 rfl (m := 5) rfl ?_)
        refine O_yy 22 hs rfl rfl (Y_ld 1 Tryd.isAgg3 rfl rfl rfl ?_)
        refine O_yes 22 rfl rfl (S_callV (args := [_]) (lb := [_]) (H1 := [_]) hs rfl rfl Tryd.func24 rfl (by kernel_rfl) (in_ok (x := ll)) fun v3 G' H' _ hR hG26 hs => ?_)
        obtain ⟨rfl, rfl⟩ := hR
        replace hs : St _ _ [_, _] _ := hs
        cases h26 : decide (0 ≤ ll ∧ ll < (i : Int))
        · -- h26: False
          refine O_yy 22 hs rfl rfl (Y_not rfl ?_)
          refine O_y hs (Y_pickT rfl rfl ?_)
          refine O_y hs (Y_assign rfl ?_)
          refine O_nil (T_sub [(2, _), (5, _), (6, _), (19, _)] ⟨rfl, rfl, rfl, rfl, trivial⟩ ?_)
          refine T_condT rfl (T_skip ?_)
          refine T_condT rfl (T_seq (T_region rfl ?_))
          refine O_y hs (Y_assign rfl ?_)
          refine O_nil (T_sub [(4, _)] ⟨rfl, trivial⟩ ?_)
          refine T_ret ?_
          refine Rt_fin (vs := [_]) Tryd.results14 rfl ⟨rfl, trivial⟩ ?_
          try dsimp only [tup]
          unfold nodeE; rw [if_neg (by dsimp only; omega)]
          rw [if_pos (fun h => by have h1 := h.1; rw [if_pos (by dsimp only; omega)] at h1; exact of_decide_eq_false h26 h1)]
          exact ⟨_, [], hs.done, rfl, rfl⟩
        · -- h26: True
          refine O_yy 22 hs rfl rfl (Y_not rfl ?_)
          refine O_y hs (Y_pickT rfl rfl ?_)
          refine O_y hs (Y_assign rfl ?_)
          refine O_nil (T_sub [(2, _), (5, _), (6, _), (19, _)] ⟨rfl, rfl, rfl, rfl, trivial⟩ ?_)
          refine T_condF rfl (T_seq (T_region rfl ?_))
          refine O_y hs (Y_move rfl ?_)
          refine O_y hs (Y_cmpF rfl rfl rfl (by omega) ?_)
          refine O_y hs (Y_move rfl ?_)
          refine O_no 31 rfl rfl ?_
          refine O_no 31 rfl rfl ?_
          refine O_no 31 rfl rfl ?_
          refine O_y hs (Y_pickF rfl rfl ?_)
          refine O_y hs (Y_assign rfl ?_)
          refine O_nil (T_sub [(2, _), (5, _), (6, _), (19, _)] ⟨rfl, rfl, rfl, rfl, trivial⟩ ?_)
          refine T_condF rfl (T_seq (T_region rfl ?_))
          refine O_y hs (Y_move rfl ?_)
          refine O_y hs (Y_cmpT rfl rfl rfl (by omega) ?_)
          refine O_y hs (Y_move rfl ?_)
          refine O_yy 38 hs rfl rfl (Y_move rfl ?_)
          refine O_yy 38 hs rfl rfl (Y_fieldAddr FO28_3 rfl (m := 6) rfl ?_)
          refine O_yy 38 hs rfl rfl (Y_ld 1 Tryd.isAgg3 rfl rfl rfl ?_)
          refine O_yes 38 rfl rfl (S_callV (args := [_]) (lb := [_]) (H1 := [_]) hs rfl rfl Tryd.func24 rfl (by kernel_rfl) (in_ok (x := rr)) fun v4 G' H' _ hR hG42 hs => ?_)
          obtain ⟨rfl, rfl⟩ := hR
          replace hs : St _ _ [_, _] _ := hs
          cases h42 : decide (0 ≤ rr ∧ rr < (i : Int))
          · -- h42: False
            refine O_yy 38 hs rfl rfl (Y_not rfl ?_)
            refine O_y hs (Y_pickT rfl rfl ?_)
            refine O_y hs (Y_assign rfl ?_)
            refine O_nil (T_sub [(2, _), (6, _), (19, _)] ⟨rfl, rfl, rfl, trivial⟩ ?_)
            refine T_condT rfl (T_skip ?_)
            refine T_condT rfl (T_seq (T_region rfl ?_))
            refine O_y hs (Y_assign rfl ?_)
            refine O_nil (T_sub [(4, _)] ⟨rfl, trivial⟩ ?_)
            refine T_ret ?_
            refine Rt_fin (vs := [_]) Tryd.results14 rfl ⟨rfl, trivial⟩ ?_
            try dsimp only [tup]
            unfold nodeE; rw [if_neg (by dsimp only; omega)]
            rw [if_pos (fun h => by have h1 := h.2; rw [if_pos (by dsimp only; omega)] at h1; exact of_decide_eq_false h42 h1)]
            exact ⟨_, [], hs.done, rfl, rfl⟩
          · -- h42: True
            refine O_yy 38 hs rfl rfl (Y_not rfl ?_)
            refine O_y hs (Y_pickT rfl rfl ?_)
            refine O_y hs (Y_assign rfl ?_)
            refine O_nil (T_sub [(2, _), (6, _), (19, _)] ⟨rfl, rfl, rfl, trivial⟩ ?_)
            refine T_condF rfl (T_region rfl ?_)
            refine O_y hs (Y_move rfl ?_)
            refine O_y hs (Y_cmpF rfl rfl rfl (by omega) ?_)
            refine O_y hs (Y_move rfl ?_)
            refine O_no 47 rfl rfl ?_
            refine O_no 47 rfl rfl ?_
            refine O_no 47 rfl rfl ?_
            refine O_y hs (Y_pickF rfl rfl ?_)
            refine O_y hs (Y_assign rfl ?_)
            refine O_nil (T_sub [(2, _), (19, _)] ⟨rfl, rfl, trivial⟩ ?_)
            refine T_condF rfl (T_seq (T_region rfl ?_))
            refine O_y hs (Y_fieldAddr FO28_0 rfl (m := 0) rfl ?_)
            refine O_y hs (Y_ld 1 Tryd.isAgg3 rfl rfl rfl ?_)
            refine O_y hs (Y_cmpS rfl rfl rfl (fun h55 => ?_) (fun h55 => ?_))
            · -- h55: True
              dsimp only [cmpP] at h55
              refine O_y hs (Y_move rfl ?_)
              refine O_yy 56 hs rfl rfl (Y_fieldAddr FO28_1 rfl (m := 1) rfl ?_)
              refine O_yy 56 hs rfl rfl (Y_ldA 1 Tryd.isAgg24 Tryd.sizeOf24 rfl rfl (vs := [_, _, _, _]) rfl rfl ?_)
              refine O_yy 56 hs rfl rfl (Y_buildA Tryd.underlying24 Tryd.sizeOf22 Tryd.zeroValue24 rfl rfl (cs := [_, _, _, _]) rfl ?_)
              refine O_yy 56 hs rfl rfl (Y_neqWS (a := [c0, c1, c2, c3]) (b := [0, 0, 0, 0]) Tryd.underlying24 Tryd.sizeOf22 Tryd.isAgg22 Tryd.underlying22 rfl rfl rfl rfl rfl hc.2 (by decide) (fun h60 => ?_) (fun h60 => ?_))
              · -- h60: True
                refine O_y hs (Y_pickT rfl rfl ?_)
                refine O_y hs (Y_assign rfl ?_)
                refine O_nil (T_sub [(2, _), (52, _)] ⟨rfl, rfl, trivial⟩ ?_)
                refine T_condT rfl (T_seq (T_region rfl ?_))
                refine O_y hs (Y_assign rfl ?_)
                refine O_nil (T_sub [(4, _)] ⟨rfl, trivial⟩ ?_)
                refine T_ret ?_
                refine Rt_fin (vs := [_]) Tryd.results14 rfl ⟨rfl, trivial⟩ ?_
                try dsimp only [tup]
                unfold nodeE; rw [if_neg (by dsimp only; omega)]
                rw [if_neg (fun h => h ⟨by rw [if_pos (by dsimp only; omega)]; exact of_decide_eq_true h26, by rw [if_pos (by dsimp only; omega)]; exact of_decide_eq_true h42⟩)]
                rw [if_pos ⟨by dsimp only; omega, h60⟩]
                exact ⟨_, [], hs.done, rfl, rfl⟩
              · -- h60: False
                refine O_y hs (Y_pickT rfl rfl ?_)
                refine O_y hs (Y_assign rfl ?_)
                refine O_nil (T_sub [(2, _), (52, _)] ⟨rfl, rfl, trivial⟩ ?_)
                refine T_condF rfl (T_seq (T_region rfl ?_))
                refine O_y hs (Y_fieldAddr FO28_0 rfl (m := 0) rfl ?_)
                refine O_y hs (Y_ld 1 Tryd.isAgg3 rfl rfl rfl ?_)
                refine O_y hs (Y_cmpS rfl rfl rfl (fun h65 => ?_) (fun h65 => ?_))
                · -- h65: True
                  dsimp only [cmpP] at h65
                  refine O_y hs (Y_assign rfl ?_)
                  refine O_nil (T_sub [(2, _), (62, _)] ⟨rfl, rfl, trivial⟩ ?_)
                  refine T_condT rfl (T_seq (T_seq (T_region rfl ?_)))
                  refine O_y hs (Y_fieldAddr FO28_4 rfl (m := 7) rfl ?_)
                  refine O_y hs (Y_ld 1 Tryd.isAgg3 rfl rfl rfl ?_)
                  refine O_y hs (Y_cmpS rfl rfl rfl (fun h68 => ?_) (fun h68 => ?_))
                  · -- h68: True
                    dsimp only [cmpP] at h68
                    refine O_y hs (Y_move rfl ?_)
                    refine O_no 69 rfl rfl ?_
                    refine O_no 69 rfl rfl ?_
                    refine O_no 69 rfl rfl ?_
                    refine O_y hs (Y_pickT rfl rfl ?_)
                    refine O_nil (T_sub [(73, _)] ⟨rfl, trivial⟩ ?_)
                    refine T_condT rfl (T_seq (T_region rfl ?_))
                    refine O_y hs (Y_assign rfl ?_)
                    refine O_nil (T_sub [(4, _)] ⟨rfl, trivial⟩ ?_)
                    refine T_ret ?_
                    refine Rt_fin (vs := [_]) Tryd.results14 rfl ⟨rfl, trivial⟩ ?_
                    try dsimp only [tup]
                    unfold nodeE; rw [if_neg (by dsimp only; omega)]
                    rw [if_neg (fun h => h ⟨by rw [if_pos (by dsimp only; omega)]; exact of_decide_eq_true h26, by rw [if_pos (by dsimp only; omega)]; exact of_decide_eq_true h42⟩)]
                    rw [if_neg (fun h => h.2 h60)]
                    rw [if_pos (by dsimp only; omega), if_pos (by dsimp only; omega)]
                    exact ⟨_, [], hs.done, rfl, rfl⟩
                  · -- h68: False
                    dsimp only [cmpP] at h68
                    refine O_y hs (Y_move rfl ?_)
                    refine O_yy 69 hs rfl rfl (Y_fieldAddr FO28_5 rfl (m := 8) rfl ?_)
                    refine O_yy 69 hs rfl rfl (Y_ld 1 Tryd.isAgg3 rfl rfl rfl ?_)
                    refine O_yy 69 hs rfl rfl (Y_cmpS rfl rfl rfl (fun h72 => ?_) (fun h72 => ?_))
                    · -- h72: True
                      dsimp only [cmpP] at h72
                      refine O_y hs (Y_pickF rfl rfl ?_)
                      refine O_nil (T_sub [(73, _)] ⟨rfl, trivial⟩ ?_)
                      refine T_condT rfl (T_seq (T_region rfl ?_))
                      refine O_y hs (Y_assign rfl ?_)
                      refine O_nil (T_sub [(4, _)] ⟨rfl, trivial⟩ ?_)
                      refine T_ret ?_
                      refine Rt_fin (vs := [_]) Tryd.results14 rfl ⟨rfl, trivial⟩ ?_
                      try dsimp only [tup]
                      unfold nodeE; rw [if_neg (by dsimp only; omega)]
                      rw [if_neg (fun h => h ⟨by rw [if_pos (by dsimp only; omega)]; exact of_decide_eq_true h26, by rw [if_pos (by dsimp only; omega)]; exact of_decide_eq_true h42⟩)]
                      rw [if_neg (fun h => h.2 h60)]
                      rw [if_pos (by dsimp only; omega), if_pos (by dsimp only; omega)]
                      exact ⟨_, [], hs.done, rfl, rfl⟩
                    · -- h72: False
                      dsimp only [cmpP] at h72
                      refine O_y hs (Y_pickF rfl rfl ?_)
                      refine O_nil (T_sub [(73, _)] ⟨rfl, trivial⟩ ?_)
                      refine T_condF rfl (T_skip ?_)
                      refine T_seq (T_region rfl ?_)
                      refine O_y hs (Y_assign rfl ?_)
                      refine O_nil (T_sub [(4, _)] ⟨rfl, trivial⟩ ?_)
                      refine T_ret ?_
                      refine Rt_fin (vs := [_]) Tryd.results14 rfl ⟨rfl, trivial⟩ ?_
                      try dsimp only [tup]
                      unfold nodeE; rw [if_neg (by dsimp only; omega)]
                      rw [if_neg (fun h => h ⟨by rw [if_pos (by dsimp only; omega)]; exact of_decide_eq_true h26, by rw [if_pos (by dsimp only; omega)]; exact of_decide_eq_true h42⟩)]
                      rw [if_neg (fun h => h.2 h60)]
                      rw [if_pos (by dsimp only; omega), if_neg (by dsimp only; omega)]
                      exact ⟨_, [], hs.done, rfl, rfl⟩
                · -- h65: False
                  dsimp only [cmpP] at h65
                  refine O_y hs (Y_assign rfl ?_)
                  refine O_nil (T_sub [(2, _), (62, _)] ⟨rfl, rfl, trivial⟩ ?_)
                  refine T_condF rfl (T_seq (T_seq (T_region rfl ?_)))
                  refine O_y hs (Y_fieldAddr FO28_4 rfl (m := 7) rfl ?_)
                  refine O_y hs (Y_ld 1 Tryd.isAgg3 rfl rfl rfl ?_)
                  refine O_y hs (Y_cmpS rfl rfl rfl (fun h77 => ?_) (fun h77 => ?_))
                  · -- h77: True
                    dsimp only [cmpP] at h77
                    refine O_y hs (Y_assign rfl ?_)
                    refine O_nil (T_sub [(2, _), (74, _)] ⟨rfl, rfl, trivial⟩ ?_)
                    refine T_condT rfl (T_skip ?_)
                    refine T_condT rfl (T_seq (T_region rfl ?_))
                    refine O_y hs (Y_assign rfl ?_)
                    refine O_nil (T_sub [(4, _)] ⟨rfl, trivial⟩ ?_)
                    refine T_ret ?_
                    refine Rt_fin (vs := [_]) Tryd.results14 rfl ⟨rfl, trivial⟩ ?_
                    try dsimp only [tup]
                    unfold nodeE; rw [if_neg (by dsimp only; omega)]
                    rw [if_neg (fun h => h ⟨by rw [if_pos (by dsimp only; omega)]; exact of_decide_eq_true h26, by rw [if_pos (by dsimp only; omega)]; exact of_decide_eq_true h42⟩)]
                    rw [if_neg (fun h => h.2 h60)]
                    rw [if_neg (by dsimp only; omega)]
                    rw [if_pos (by dsimp only; omega)]
                    exact ⟨_, [], hs.done, rfl, rfl⟩
                  · -- h77: False
                    dsimp only [cmpP] at h77
                    refine O_y hs (Y_assign rfl ?_)
                    refine O_nil (T_sub [(2, _), (74, _)] ⟨rfl, rfl, trivial⟩ ?_)
                    refine T_condF rfl (T_region rfl ?_)
                    refine O_y hs (Y_fieldAddr FO28_5 rfl (m := 8) rfl ?_)
                    refine O_y hs (Y_ld 1 Tryd.isAgg3 rfl rfl rfl ?_)
                    refine O_y hs (Y_cmpS rfl rfl rfl (fun h80 => ?_) (fun h80 => ?_))
                    · -- h80: True
                      dsimp only [cmpP] at h80
                      refine O_y hs (Y_assign rfl ?_)
                      refine O_nil (T_sub [(2, _), (74, _)] ⟨rfl, rfl, trivial⟩ ?_)
                      refine T_condT rfl (T_seq (T_region rfl ?_))
                      refine O_y hs (Y_assign rfl ?_)
                      refine O_nil (T_sub [(4, _)] ⟨rfl, trivial⟩ ?_)
                      refine T_ret ?_
                      refine Rt_fin (vs := [_]) Tryd.results14 rfl ⟨rfl, trivial⟩ ?_
                      try dsimp only [tup]
                      unfold nodeE; rw [if_neg (by dsimp only; omega)]
                      rw [if_neg (fun h => h ⟨by rw [if_pos (by dsimp only; omega)]; exact of_decide_eq_true h26, by rw [if_pos (by dsimp only; omega)]; exact of_decide_eq_true h42⟩)]
                      rw [if_neg (fun h => h.2 h60)]
                      rw [if_neg (by dsimp only; omega)]
                      rw [if_pos (by dsimp only; omega)]
                      exact ⟨_, [], hs.done, rfl, rfl⟩
                    · -- h80: False
                      dsimp only [cmpP] at h80
                      refine O_y hs (Y_assign rfl ?_)
                      refine O_nil (T_sub [(2, _), (74, _)] ⟨rfl, rfl, trivial⟩ ?_)
                      refine T_condF rfl (T_seq (T_seq (T_region rfl ?_)))
                      refine O_y hs (Y_fieldAddr FO28_4 rfl (m := 7) rfl ?_)
                      refine O_y hs (Y_ld 1 Tryd.isAgg3 rfl rfl rfl ?_)
                      refine O_y hs (Y_cmpS rfl rfl rfl (fun h84 => ?_) (fun h84 => ?_))
                      · -- h84: True
                        dsimp only [cmpP] at h84
                        refine O_y hs (Y_assign rfl ?_)
                        refine O_nil (T_sub [(2, _), (81, _)] ⟨rfl, rfl, trivial⟩ ?_)
                        refine T_condT rfl (T_skip ?_)
                        refine T_condT rfl (T_seq (T_region rfl ?_))
                        refine O_y hs (Y_assign rfl ?_)
                        refine O_nil (T_sub [(4, _)] ⟨rfl, trivial⟩ ?_)
                        refine T_ret ?_
                        refine Rt_fin (vs := [_]) Tryd.results14 rfl ⟨rfl, trivial⟩ ?_
                        try dsimp only [tup]
                        unfold nodeE; rw [if_neg (by dsimp only; omega)]
                        rw [if_neg (fun h => h ⟨by rw [if_pos (by dsimp only; omega)]; exact of_decide_eq_true h26, by rw [if_pos (by dsimp only; omega)]; exact of_decide_eq_true h42⟩)]
                        rw [if_neg (fun h => h.2 h60)]
                        rw [if_neg (by dsimp only; omega)]
                        rw [if_neg (by dsimp only; omega)]
                        rw [if_pos (by dsimp only; omega)]
                        exact ⟨_, [], hs.done, rfl, rfl⟩
                      · -- h84: False
                        dsimp only [cmpP] at h84
                        refine O_y hs (Y_assign rfl ?_)
                        refine O_nil (T_sub [(2, _), (81, _)] ⟨rfl, rfl, trivial⟩ ?_)
                        refine T_condF rfl (T_region rfl ?_)
                        refine O_y hs (Y_fieldAddr FO28_5 rfl (m := 8) rfl ?_)
                        refine O_y hs (Y_ld 1 Tryd.isAgg3 rfl rfl rfl ?_)
                        refine O_y hs (Y_cmpS rfl rfl rfl (fun h87 => ?_) (fun h87 => ?_))
                        · -- h87: True
                          dsimp only [cmpP] at h87
                          refine O_y hs (Y_assign rfl ?_)
                          refine O_nil (T_sub [(2, _), (81, _)] ⟨rfl, rfl, trivial⟩ ?_)
                          refine T_condT rfl (T_seq (T_region rfl ?_))
                          refine O_y hs (Y_assign rfl ?_)
                          refine O_nil (T_sub [(4, _)] ⟨rfl, trivial⟩ ?_)
                          refine T_ret ?_
                          refine Rt_fin (vs := [_]) Tryd.results14 rfl ⟨rfl, trivial⟩ ?_
                          try dsimp only [tup]
                          unfold nodeE; rw [if_neg (by dsimp only; omega)]
                          rw [if_neg (fun h => h ⟨by rw [if_pos (by dsimp only; omega)]; exact of_decide_eq_true h26, by rw [if_pos (by dsimp only; omega)]; exact of_decide_eq_true h42⟩)]
                          rw [if_neg (fun h => h.2 h60)]
                          rw [if_neg (by dsimp only; omega)]
                          rw [if_neg (by dsimp only; omega)]
                          rw [if_pos (by dsimp only; omega)]
                          exact ⟨_, [], hs.done, rfl, rfl⟩
                        · -- h87: False
                          dsimp only [cmpP] at h87
                          refine O_y hs (Y_assign rfl ?_)
                          refine O_nil (T_sub [(2, _), (81, _)] ⟨rfl, rfl, trivial⟩ ?_)
                          refine T_condF rfl (T_seq (T_region rfl ?_))
                          refine O_y hs (Y_fieldAddr FO28_5 rfl (m := 8) rfl ?_)
                          refine O_y hs (Y_ld 1 Tryd.isAgg3 rfl rfl rfl ?_)
                          refine O_y hs (Y_cmpS rfl rfl rfl (fun h91 => ?_) (fun h91 => ?_))
                          · -- h91: True
                            dsimp only [cmpP] at h91
                            refine O_y hs (Y_move rfl ?_)
                            refine O_yy 92 hs rfl rfl (Y_fieldAddr FO28_5 rfl (m := 8) rfl ?_)
                            refine O_yy 92 hs rfl rfl (Y_ld 1 Tryd.isAgg3 rfl rfl rfl ?_)
                            refine O_yy 92 hs rfl rfl (Y_fieldAddr FO28_4 rfl (m := 7) rfl ?_)
                            refine O_yy 92 hs rfl rfl (Y_ld 1 Tryd.isAgg3 rfl rfl rfl ?_)
                            refine O_yy 92 hs rfl rfl (Y_cmpS rfl rfl rfl (fun h97 => ?_) (fun h97 => ?_))
                            · -- h97: True
                              dsimp only [cmpP] at h97
                              refine O_y hs (Y_pickT rfl rfl ?_)
                              refine O_y hs (Y_assign rfl ?_)
                              refine O_nil (T_sub [(88, _)] ⟨rfl, trivial⟩ ?_)
                              refine T_condT rfl (T_seq (T_region rfl ?_))
                              refine O_y hs (Y_assign rfl ?_)
                              refine O_nil (T_sub [(4, _)] ⟨rfl, trivial⟩ ?_)
                              refine T_ret ?_
                              refine Rt_fin (vs := [_]) Tryd.results14 rfl ⟨rfl, trivial⟩ ?_
                              try dsimp only [tup]
                              unfold nodeE; rw [if_neg (by dsimp only; omega)]
                              rw [if_neg (fun h => h ⟨by rw [if_pos (by dsimp only; omega)]; exact of_decide_eq_true h26, by rw [if_pos (by dsimp only; omega)]; exact of_decide_eq_true h42⟩)]
                              rw [if_neg (fun h => h.2 h60)]
                              rw [if_neg (by dsimp only; omega)]
                              rw [if_neg (by dsimp only; omega)]
                              rw [if_neg (by dsimp only; omega)]
                              rw [if_pos (by dsimp only; omega)]
                              exact ⟨_, [], hs.done, rfl, rfl⟩
                            · -- h97: False
                              dsimp only [cmpP] at h97
                              refine O_y hs (Y_pickT rfl rfl ?_)
                              refine O_y hs (Y_assign rfl ?_)
                              refine O_nil (T_sub [(88, _)] ⟨rfl, trivial⟩ ?_)
                              refine T_condF rfl (T_skip ?_)
                              refine T_seq (T_region rfl ?_)
                              refine O_y hs (Y_assign rfl ?_)
                              refine O_nil (T_sub [(4, _)] ⟨rfl, trivial⟩ ?_)
                              refine T_ret ?_
                              refine Rt_fin (vs := [_]) Tryd.results14 rfl ⟨rfl, trivial⟩ ?_
                              try dsimp only [tup]
                              unfold nodeE; rw [if_neg (by dsimp only; omega)]
                              rw [if_neg (fun h => h ⟨by rw [if_pos (by dsimp only; omega)]; exact of_decide_eq_true h26, by rw [if_pos (by dsimp only; omega)]; exact of_decide_eq_true h42⟩)]
                              rw [if_neg (fun h => h.2 h60)]
                              rw [if_neg (by dsimp only; omega)]
                              rw [if_neg (by dsimp only; omega)]
                              rw [if_neg (by dsimp only; omega)]
                              rw [if_neg (by dsimp only; omega)]
                              exact ⟨_, [], hs.done, rfl, rfl⟩
                          · -- h91: False
                            dsimp only [cmpP] at h91
                            refine O_y hs (Y_move rfl ?_)
                            refine O_no 92 rfl rfl ?_
                            refine O_no 92 rfl rfl ?_
                            refine O_no 92 rfl rfl ?_
                            refine O_no 92 rfl rfl ?_
                            refine O_no 92 rfl rfl ?_
                            refine O_y hs (Y_pickF rfl rfl ?_)
                            refine O_y hs (Y_assign rfl ?_)
                            refine O_nil (T_sub [(88, _)] ⟨rfl, trivial⟩ ?_)
                            refine T_condF rfl (T_skip ?_)
                            refine T_seq (T_region rfl ?_)
                            refine O_y hs (Y_assign rfl ?_)
                            refine O_nil (T_sub [(4, _)] ⟨rfl, trivial⟩ ?_)
                            refine T_ret ?_
                            refine Rt_fin (vs := [_]) Tryd.results14 rfl ⟨rfl, trivial⟩ ?_
                            try dsimp only [tup]
                            unfold nodeE; rw [if_neg (by dsimp only; omega)]
                            rw [if_neg (fun h => h ⟨by rw [if_pos (by dsimp only; omega)]; exact of_decide_eq_true h26, by rw [if_pos (by dsimp only; omega)]; exact of_decide_eq_true h42⟩)]
                            rw [if_neg (fun h => h.2 h60)]
                            rw [if_neg (by dsimp only; omega)]
                            rw [if_neg (by dsimp only; omega)]
                            rw [if_neg (by dsimp only; omega)]
                            rw [if_neg (by dsimp only; omega)]
                            exact ⟨_, [], hs.done, rfl, rfl⟩
            · -- h55: False
              dsimp only [cmpP] at h55
              refine O_y hs (Y_move rfl ?_)
              refine O_no 56 rfl rfl ?_
              refine O_no 56 rfl rfl ?_
              refine O_no 56 rfl rfl ?_
              refine O_no 56 rfl rfl ?_
              refine O_y hs (Y_pickF rfl rfl ?_)
              refine O_y hs (Y_assign rfl ?_)
              refine O_nil (T_sub [(2, _), (52, _)] ⟨rfl, rfl, trivial⟩ ?_)
              refine T_condF rfl (T_seq (T_region rfl ?_))
              refine O_y hs (Y_fieldAddr FO28_0 rfl (m := 0) rfl ?_)
              refine O_y hs (Y_ld 1 Tryd.isAgg3 rfl rfl rfl ?_)
              refine O_y hs (Y_cmpS rfl rfl rfl (fun h65 => ?_) (fun h65 => ?_))
              · -- h65: True
                dsimp only [cmpP] at h65
                refine O_y hs (Y_assign rfl ?_)
                refine O_nil (T_sub [(2, _), (62, _)] ⟨rfl, rfl, trivial⟩ ?_)
                refine T_condT rfl (T_seq (T_seq (T_region rfl ?_)))
                refine O_y hs (Y_fieldAddr FO28_4 rfl (m := 7) rfl ?_)
                refine O_y hs (Y_ld 1 Tryd.isAgg3 rfl rfl rfl ?_)
                refine O_y hs (Y_cmpS rfl rfl rfl (fun h68 => ?_) (fun h68 => ?_))
                · -- h68: True
                  dsimp only [cmpP] at h68
                  refine O_y hs (Y_move rfl ?_)
                  refine O_no 69 rfl rfl ?_
                  refine O_no 69 rfl rfl ?_
                  refine O_no 69 rfl rfl ?_
                  refine O_y hs (Y_pickT rfl rfl ?_)
                  refine O_nil (T_sub [(73, _)] ⟨rfl, trivial⟩ ?_)
                  refine T_condT rfl (T_seq (T_region rfl ?_))
                  refine O_y hs (Y_assign rfl ?_)
                  refine O_nil (T_sub [(4, _)] ⟨rfl, trivial⟩ ?_)
                  refine T_ret ?_
                  refine Rt_fin (vs := [_]) Tryd.results14 rfl ⟨rfl, trivial⟩ ?_
                  try dsimp only [tup]
                  unfold nodeE; rw [if_neg (by dsimp only; omega)]
                  rw [if_neg (fun h => h ⟨by rw [if_pos (by dsimp only; omega)]; exact of_decide_eq_true h26, by rw [if_pos (by dsimp only; omega)]; exact of_decide_eq_true h42⟩)]
                  rw [if_neg (fun h => absurd h.1 (by dsimp only; omega))]
                  rw [if_pos (by dsimp only; omega), if_pos (by dsimp only; omega)]
                  exact ⟨_, [], hs.done, rfl, rfl⟩
                · -- h68: False
                  dsimp only [cmpP] at h68
                  refine O_y hs (Y_move rfl ?_)
                  refine O_yy 69 hs rfl rfl (Y_fieldAddr FO28_5 rfl (m := 8) rfl ?_)
                  refine O_yy 69 hs rfl rfl (Y_ld 1 Tryd.isAgg3 rfl rfl rfl ?_)
                  refine O_yy 69 hs rfl rfl (Y_cmpS rfl rfl rfl (fun h72 => ?_) (fun h72 => ?_))
                  · -- h72: True
                    dsimp only [cmpP] at h72
                    refine O_y hs (Y_pickF rfl rfl ?_)
                    refine O_nil (T_sub [(73, _)] ⟨rfl, trivial⟩ ?_)
                    refine T_condT rfl (T_seq (T_region rfl ?_))
                    refine O_y hs (Y_assign rfl ?_)
                    refine O_nil (T_sub [(4, _)] ⟨rfl, trivial⟩ ?_)
                    refine T_ret ?_
                    refine Rt_fin (vs := [_]) Tryd.results14 rfl ⟨rfl, trivial⟩ ?_
                    try dsimp only [tup]
                    unfold nodeE; rw [if_neg (by dsimp only; omega)]
                    rw [if_neg (fun h => h ⟨by rw [if_pos (by dsimp only; omega)]; exact of_decide_eq_true h26, by rw [if_pos (by dsimp only; omega)]; exact of_decide_eq_true h42⟩)]
                    rw [if_neg (fun h => absurd h.1 (by dsimp only; omega))]
                    rw [if_pos (by dsimp only; omega), if_pos (by dsimp only; omega)]
                    exact ⟨_, [], hs.done, rfl, rfl⟩
                  · -- h72: False
                    dsimp only [cmpP] at h72
                    refine O_y hs (Y_pickF rfl rfl ?_)
                    refine O_nil (T_sub [(73, _)] ⟨rfl, trivial⟩ ?_)
                    refine T_condF rfl (T_skip ?_)
                    refine T_seq (T_region rfl ?_)
                    refine O_y hs (Y_assign rfl ?_)
                    refine O_nil (T_sub [(4, _)] ⟨rfl, trivial⟩ ?_)
                    refine T_ret ?_
                    refine Rt_fin (vs := [_]) Tryd.results14 rfl ⟨rfl, trivial⟩ ?_
                    try dsimp only [tup]
                    unfold nodeE; rw [if_neg (by dsimp only; omega)]
                    rw [if_neg (fun h => h ⟨by rw [if_pos (by dsimp only; omega)]; exact of_decide_eq_true h26, by rw [if_pos (by dsimp only; omega)]; exact of_decide_eq_true h42⟩)]
                    rw [if_neg (fun h => absurd h.1 (by dsimp only; omega))]
                    rw [if_pos (by dsimp only; omega), if_neg (by dsimp only; omega)]
                    exact ⟨_, [], hs.done, rfl, rfl⟩
              · -- h65: False
                dsimp only [cmpP] at h65
                refine O_y hs (Y_assign rfl ?_)
                refine O_nil (T_sub [(2, _), (62, _)] ⟨rfl, rfl, trivial⟩ ?_)
                refine T_condF rfl (T_seq (T_seq (T_region rfl ?_)))
                refine O_y hs (Y_fieldAddr FO28_4 rfl (m := 7) rfl ?_)
                refine O_y hs (Y_ld 1 Tryd.isAgg3 rfl rfl rfl ?_)
                refine O_y hs (Y_cmpS rfl rfl rfl (fun h77 => ?_) (fun h77 => ?_))
                · -- h77: True
                  dsimp only [cmpP] at h77
                  refine O_y hs (Y_assign rfl ?_)
                  refine O_nil (T_sub [(2, _), (74, _)] ⟨rfl, rfl, trivial⟩ ?_)
                  refine T_condT rfl (T_skip ?_)
                  refine T_condT rfl (T_seq (T_region rfl ?_))
                  refine O_y hs (Y_assign rfl ?_)
                  refine O_nil (T_sub [(4, _)] ⟨rfl, trivial⟩ ?_)
                  refine T_ret ?_
                  refine Rt_fin (vs := [_]) Tryd.results14 rfl ⟨rfl, trivial⟩ ?_
                  try dsimp only [tup]
                  unfold nodeE; rw [if_neg (by dsimp only; omega)]
                  rw [if_neg (fun h => h ⟨by rw [if_pos (by dsimp only; omega)]; exact of_decide_eq_true h26, by rw [if_pos (by dsimp only; omega)]; exact of_decide_eq_true h42⟩)]
                  rw [if_neg (fun h => absurd h.1 (by dsimp only; omega))]
                  rw [if_neg (by dsimp only; omega)]
                  rw [if_pos (by dsimp only; omega)]
                  exact ⟨_, [], hs.done, rfl, rfl⟩
                · -- h77: False
                  dsimp only [cmpP] at h77
                  refine O_y hs (Y_assign rfl ?_)
                  refine O_nil (T_sub [(2, _), (74, _)] ⟨rfl, rfl, trivial⟩ ?_)
                  refine T_condF rfl (T_region rfl ?_)
                  refine O_y hs (Y_fieldAddr FO28_5 rfl (m := 8) rfl ?_)
                  refine O_y hs (Y_ld 1 Tryd.isAgg3 rfl rfl rfl ?_)
                  refine O_y hs (Y_cmpS rfl rfl rfl (fun h80 => ?_) (fun h80 => ?_))
                  · -- h80: True
                    dsimp only [cmpP] at h80
                    refine O_y hs (Y_assign rfl ?_)
                    refine O_nil (T_sub [(2, _), (74, _)] ⟨rfl, rfl, trivial⟩ ?_)
                    refine T_condT rfl (T_seq (T_region rfl ?_))
                    refine O_y hs (Y_assign rfl ?_)
                    refine O_nil (T_sub [(4, _)] ⟨rfl, trivial⟩ ?_)
                    refine T_ret ?_
                    refine Rt_fin (vs := [_]) Tryd.results14 rfl ⟨rfl, trivial⟩ ?_
                    try dsimp only [tup]
                    unfold nodeE; rw [if_neg (by dsimp only; omega)]
                    rw [if_neg (fun h => h ⟨by rw [if_pos (by dsimp only; omega)]; exact of_decide_eq_true h26, by rw [if_pos (by dsimp only; omega)]; exact of_decide_eq_true h42⟩)]
                    rw [if_neg (fun h => absurd h.1 (by dsimp only; omega))]
                    rw [if_neg (by dsimp only; omega)]
                    rw [if_pos (by dsimp only; omega)]
                    exact ⟨_, [], hs.done, rfl, rfl⟩
                  · -- h80: False
                    dsimp only [cmpP] at h80
                    refine O_y hs (Y_assign rfl ?_)
                    refine O_nil (T_sub [(2, _), (74, _)] ⟨rfl, rfl, trivial⟩ ?_)
                    refine T_condF rfl (T_seq (T_seq (T_region rfl ?_)))
                    refine O_y hs (Y_fieldAddr FO28_4 rfl (m := 7) rfl ?_)
                    refine O_y hs (Y_ld 1 Tryd.isAgg3 rfl rfl rfl ?_)
                    refine O_y hs (Y_cmpS rfl rfl rfl (fun h84 => ?_) (fun h84 => ?_))
                    · -- h84: True
                      dsimp only [cmpP] at h84
                      refine O_y hs (Y_assign rfl ?_)
                      refine O_nil (T_sub [(2, _), (81, _)] ⟨rfl, rfl, trivial⟩ ?_)
                      refine T_condT rfl (T_skip ?_)
                      refine T_condT rfl (T_seq (T_region rfl ?_))
                      refine O_y hs (Y_assign rfl ?_)
                      refine O_nil (T_sub [(4, _)] ⟨rfl, trivial⟩ ?_)
                      refine T_ret ?_
                      refine Rt_fin (vs := [_]) Tryd.results14 rfl ⟨rfl, trivial⟩ ?_
                      try dsimp only [tup]
                      unfold nodeE; rw [if_neg (by dsimp only; omega)]
                      rw [if_neg (fun h => h ⟨by rw [if_pos (by dsimp only; omega)]; exact of_decide_eq_true h26, by rw [if_pos (by dsimp only; omega)]; exact of_decide_eq_true h42⟩)]
                      rw [if_neg (fun h => absurd h.1 (by dsimp only; omega))]
                      rw [if_neg (by dsimp only; omega)]
                      rw [if_neg (by dsimp only; omega)]
                      rw [if_pos (by dsimp only; omega)]
                      exact ⟨_, [], hs.done, rfl, rfl⟩
                    · -- h84: False
                      dsimp only [cmpP] at h84
                      refine O_y hs (Y_assign rfl ?_)
                      refine O_nil (T_sub [(2, _), (81, _)] ⟨rfl, rfl, trivial⟩ ?_)
                      refine T_condF rfl (T_region rfl ?_)
                      refine O_y hs (Y_fieldAddr FO28_5 rfl (m := 8) rfl ?_)
                      refine O_y hs (Y_ld 1 Tryd.isAgg3 rfl rfl rfl ?_)
                      refine O_y hs (Y_cmpS rfl rfl rfl (fun h87 => ?_) (fun h87 => ?_))
                      · -- h87: True
                        dsimp only [cmpP] at h87
                        refine O_y hs (Y_assign rfl ?_)
                        refine O_nil (T_sub [(2, _), (81, _)] ⟨rfl, rfl, trivial⟩ ?_)
                        refine T_condT rfl (T_seq (T_region rfl ?_))
                        refine O_y hs (Y_assign rfl ?_)
                        refine O_nil (T_sub [(4, _)] ⟨rfl, trivial⟩ ?_)
                        refine T_ret ?_
                        refine Rt_fin (vs := [_]) Tryd.results14 rfl ⟨rfl, trivial⟩ ?_
                        try dsimp only [tup]
                        unfold nodeE; rw [if_neg (by dsimp only; omega)]
                        rw [if_neg (fun h => h ⟨by rw [if_pos (by dsimp only; omega)]; exact of_decide_eq_true h26, by rw [if_pos (by dsimp only; omega)]; exact of_decide_eq_true h42⟩)]
                        rw [if_neg (fun h => absurd h.1 (by dsimp only; omega))]
                        rw [if_neg (by dsimp only; omega)]
                        rw [if_neg (by dsimp only; omega)]
                        rw [if_pos (by dsimp only; omega)]
                        exact ⟨_, [], hs.done, rfl, rfl⟩
                      · -- h87: False
                        dsimp only [cmpP] at h87
                        refine O_y hs (Y_assign rfl ?_)
                        refine O_nil (T_sub [(2, _), (81, _)] ⟨rfl, rfl, trivial⟩ ?_)
                        refine T_condF rfl (T_seq (T_region rfl ?_))
                        refine O_y hs (Y_fieldAddr FO28_5 rfl (m := 8) rfl ?_)
                        refine O_y hs (Y_ld 1 Tryd.isAgg3 rfl rfl rfl ?_)
                        refine O_y hs (Y_cmpS rfl rfl rfl (fun h91 => ?_) (fun h91 => ?_))
                        · -- h91: True
                          dsimp only [cmpP] at h91
                          refine O_y hs (Y_move rfl ?_)
                          refine O_yy 92 hs rfl rfl (Y_fieldAddr FO28_5 rfl (m := 8) rfl ?_)
                          refine O_yy 92 hs rfl rfl (Y_ld 1 Tryd.isAgg3 rfl rfl rfl ?_)
                          refine O_yy 92 hs rfl rfl (Y_fieldAddr FO28_4 rfl (m := 7) rfl ?_)
                          refine O_yy 92 hs rfl rfl (Y_ld 1 Tryd.isAgg3 rfl rfl rfl ?_)
                          refine O_yy 92 hs rfl rfl (Y_cmpS rfl rfl rfl (fun h97 => ?_) (fun h97 => ?_))
                          · -- h97: True
                            dsimp only [cmpP] at h97
                            refine O_y hs (Y_pickT rfl rfl ?_)
                            refine O_y hs (Y_assign rfl ?_)
                            refine O_nil (T_sub [(88, _)] ⟨rfl, trivial⟩ ?_)
                            refine T_condT rfl (T_seq (T_region rfl ?_))
                            refine O_y hs (Y_assign rfl ?_)
                            refine O_nil (T_sub [(4, _)] ⟨rfl, trivial⟩ ?_)
                            refine T_ret ?_
                            refine Rt_fin (vs := [_]) Tryd.results14 rfl ⟨rfl, trivial⟩ ?_
                            try dsimp only [tup]
                            unfold nodeE; rw [if_neg (by dsimp only; omega)]
                            rw [if_neg (fun h => h ⟨by rw [if_pos (by dsimp only; omega)]; exact of_decide_eq_true h26, by rw [if_pos (by dsimp only; omega)]; exact of_decide_eq_true h42⟩)]
                            rw [if_neg (fun h => absurd h.1 (by dsimp only; omega))]
                            rw [if_neg (by dsimp only; omega)]
                            rw [if_neg (by dsimp only; omega)]
                            rw [if_neg (by dsimp only; omega)]
                            rw [if_pos (by dsimp only; omega)]
                            exact ⟨_, [], hs.done, rfl, rfl⟩
                          · -- h97: False
                            dsimp only [cmpP] at h97
                            refine O_y hs (Y_pickT rfl rfl ?_)
                            refine O_y hs (Y_assign rfl ?_)
                            refine O_nil (T_sub [(88, _)] ⟨rfl, trivial⟩ ?_)
                            refine T_condF rfl (T_skip ?_)
                            refine T_seq (T_region rfl ?_)
                            refine O_y hs (Y_assign rfl ?_)
                            refine O_nil (T_sub [(4, _)] ⟨rfl, trivial⟩ ?_)
                            refine T_ret ?_
                            refine Rt_fin (vs := [_]) Tryd.results14 rfl ⟨rfl, trivial⟩ ?_
                            try dsimp only [tup]
                            unfold nodeE; rw [if_neg (by dsimp only; omega)]
                            rw [if_neg (fun h => h ⟨by rw [if_pos (by dsimp only; omega)]; exact of_decide_eq_true h26, by rw [if_pos (by dsimp only; omega)]; exact of_decide_eq_true h42⟩)]
                            rw [if_neg (fun h => absurd h.1 (by dsimp only; omega))]
                            rw [if_neg (by dsimp only; omega)]
                            rw [if_neg (by dsimp only; omega)]
                            rw [if_neg (by dsimp only; omega)]
                            rw [if_neg (by dsimp only; omega)]
                            exact ⟨_, [], hs.done, rfl, rfl⟩
                        · -- h91: False
                          dsimp only [cmpP] at h91
                          refine O_y hs (Y_move rfl ?_)
                          refine O_no 92 rfl rfl ?_
                          refine O_no 92 rfl rfl ?_
                          refine O_no 92 rfl rfl ?_
                          refine O_no 92 rfl rfl ?_
                          refine O_no 92 rfl rfl ?_
                          refine O_y hs (Y_pickF rfl rfl ?_)
                          refine O_y hs (Y_assign rfl ?_)
                          refine O_nil (T_sub [(88, _)] ⟨rfl, trivial⟩ ?_)
                          refine T_condF rfl (T_skip ?_)
                          refine T_seq (T_region rfl ?_)
                          refine O_y hs (Y_assign rfl ?_)
                          refine O_nil (T_sub [(4, _)] ⟨rfl, trivial⟩ ?_)
                          refine T_ret ?_
                          refine Rt_fin (vs := [_]) Tryd.results14 rfl ⟨rfl, trivial⟩ ?_
                          try dsimp only [tup]
                          unfold nodeE; rw [if_neg (by dsimp only; omega)]
                          rw [if_neg (fun h => h ⟨by rw [if_pos (by dsimp only; omega)]; exact of_decide_eq_true h26, by rw [if_pos (by dsimp only; omega)]; exact of_decide_eq_true h42⟩)]
                          rw [if_neg (fun h => absurd h.1 (by dsimp only; omega))]
                          rw [if_neg (by dsimp only; omega)]
                          rw [if_neg (by dsimp only; omega)]
                          rw [if_neg (by dsimp only; omega)]
                          rw [if_neg (by dsimp only; omega)]
                          exact ⟨_, [], hs.done, rfl, rfl⟩

set_option maxHeartbeats 2000000 in
set_option maxRecDepth 10000 in
theorem valid_ok {G : Ghost} {v : Value} {l : List NodeV} (hx : Rx G v l) (hl : l.length ≤ 1000000000) :
    FnOk Tryd.prog 5 [v] G [] fun r _ H' => H' = [] ∧ r = .int .i64 (validF l) := by
  obtain ⟨A, cap, rfl⟩ := LstR.slice hx
  refine FnOk.of_T [(0, _)] Tryd.func5 rfl Tryd.ntmps5 (by simp) rfl fun w0 hs => ?_
  have hx0 := hx
  refine T_seq (T_region rfl ?_)
  refine O_y hs (Y_assign rfl ?_)
  refine O_nil (T_sub [(0, _)] ⟨rfl, trivial⟩ ?_)
  refine T_seq (T_block (T_seq (T_region rfl ?_)))
  refine O_y hs (Y_move rfl ?_)
  refine O_y hs (Y_len Tryd.underlying30 rfl ?_)
  refine O_y hs (Y_cmpS rfl rfl rfl (fun h12 => ?_) (fun h12 => ?_))
  · -- h12: True
    dsimp only [cmpP] at h12
    refine O_y hs (Y_assign rfl ?_)
    refine O_nil (T_sub [(0, _), (9, _)] ⟨rfl, rfl, trivial⟩ ?_)
    refine T_condT rfl (T_seq (T_region rfl ?_))
    refine O_y hs (Y_assign rfl ?_)
    refine O_nil (T_sub [(2, _)] ⟨rfl, trivial⟩ ?_)
    refine T_ret ?_
    refine Rt_fin (vs := [_]) Tryd.results5 rfl ⟨rfl, trivial⟩ ?_
    try dsimp only [tup]
    rw [valid_big (by omega)]
    exact ⟨_, [], hs.done, rfl, rfl⟩
  · -- h12: False
    dsimp only [cmpP] at h12
    refine O_y hs (Y_assign rfl ?_)
    refine O_nil (T_sub [(0, _), (9, _)] ⟨rfl, rfl, trivial⟩ ?_)
    refine T_condF rfl (T_seq (T_region rfl ?_))
    refine O_y hs (Y_move rfl ?_)
    refine O_y hs (Y_len Tryd.underlying30 rfl ?_)
    refine O_y hs (Y_cmpS rfl rfl rfl (fun h16 => ?_) (fun h16 => ?_))
    · -- h16: True
      dsimp only [cmpP] at h16
      refine O_y hs (Y_assign rfl ?_)
      refine O_nil (T_sub [(0, _), (13, _)] ⟨rfl, rfl, trivial⟩ ?_)
      refine T_condT rfl (T_seq (T_region rfl ?_))
      refine O_y hs (Y_assign rfl ?_)
      refine O_nil (T_sub [(2, _)] ⟨rfl, trivial⟩ ?_)
      refine T_ret ?_
      refine Rt_fin (vs := [_]) Tryd.results5 rfl ⟨rfl, trivial⟩ ?_
      try dsimp only [tup]
      rw [valid_nil (by omega)]
      exact ⟨_, [], hs.done, rfl, rfl⟩
    · -- h16: False
      dsimp only [cmpP] at h16
      refine O_y hs (Y_assign rfl ?_)
      refine O_nil (T_sub [(0, _), (13, _)] ⟨rfl, rfl, trivial⟩ ?_)
      refine T_condF rfl (T_skip ?_)
      refine T_seq (T_region rfl ?_)
      refine O_y hs (Y_move rfl ?_)
      refine O_y hs (Y_len Tryd.underlying30 rfl ?_)
      refine O_s (S_make (n := l.length) (m := l.length) hs Tryd.underlying44 TI3 rfl rfl rfl (by omega) (by omega) (by omega) fun b19 _ hs => ?_)
      refine O_y hs (Y_assign rfl ?_)
      refine O_nil (T_sub [(0, _), (3, _)] ⟨rfl, rfl, trivial⟩ ?_)
      refine T_seq (T_seq (T_region rfl ?_))
      refine O_y hs (Y_move rfl ?_)
      refine O_y hs (Y_len Tryd.underlying30 rfl ?_)
      refine O_y hs (Y_move rfl ?_)
      refine O_nil (T_sub [(0, _), (3, _), (20, _), (21, _), (22, _)] ⟨rfl, rfl, rfl, rfl, rfl, trivial⟩ ?_)
      refine T_block (T_loop (fun m E w => ∃ (k : Nat) (cs : List Nat) (G' : Ghost), k ≤ l.length ∧ cs = (l.take k).foldl stepC (List.replicate l.length 0) ∧ errF 0 l = errF k (l.drop k) ∧ cs.length = l.length ∧ (∀ x ∈ cs, x ≤ 2 * k) ∧ m = l.length - k ∧ E = ⟨[], [(0, (.slice A l.length cap)), (3, .slice (some ⟨b19, 0, none⟩) l.length l.length), (20, (.slice A l.length cap)), (21, .int .i64 ((l.length : Nat) : Int)), (22, .int .i64 (k : Int))]⟩ ∧ St ⟨w0, G, feet []⟩ G' [.row 3 1 (.slice (some ⟨b19, 0, none⟩) l.length l.length) l.length (cs.map natV)] w) (L := [(0, _), (3, _), (20, _), (21, _), (22, _)]) ⟨rfl, rfl, rfl, rfl, rfl, trivial⟩ (⟨0, List.replicate l.length 0, _, by omega, rfl, rfl, by simp, fun x hx => by rw [List.eq_of_mem_replicate hx]; exact Nat.zero_le _, rfl, rfl, by rw [List.map_replicate]; exact hs⟩) fun m E w hI => ?_)
      obtain ⟨k, cs, G', hk, hcs, herr, hcl, hcb, rfl, rfl, hs⟩ := hI
      have hx := hx0.mono hs.le
      refine T_seq (T_region rfl ?_)
      refine O_y hs (Y_cmpS rfl rfl rfl (fun h23 => ?_) (fun h23 => ?_))
      · -- h23: True
        dsimp only [cmpP] at h23
        refine O_nil (T_sub [(0, _), (3, _), (20, _), (21, _), (22, _), (23, _)] ⟨rfl, rfl, rfl, rfl, rfl, rfl, trivial⟩ ?_)
        refine T_seq (T_condT rfl (T_skip ?_))
        refine T_seq (T_block (T_seq (T_region rfl ?_)))
        refine O_y hs (Y_move rfl ?_)
        refine O_y hs (Y_idxS hx k Tryd.underlying30 Tryd.sizeOf28 rfl rfl rfl (by omega) fun p25 c25 hp25 hc25 hR25 => ?_)
        obtain ⟨rfl, hco⟩ := hR25
        obtain ⟨nk, hnk⟩ : ∃ n, n = l[k] := ⟨_, rfl⟩
        rw [← hnk] at hp25 hco
        obtain ⟨kd, cc, ll, rr, mn, mx⟩ := nk
        obtain ⟨c0, c1, c2, c3, rfl⟩ := four_of hco.1
        refine O_y hs (Y_ldAG (vs := [.int .i64 kd, u64V c0, u64V c1, u64V c2, u64V c3, .int .i64 ll, .int .i64 rr, .int .i64 mn, .int .i64 mx]) Tryd.isAgg28 Tryd.sizeOf28 rfl hp25 rfl ?_)
        refine O_s (S_alloc hs Tryd.zeroValue28 (cs := [_, _, _, _, _, _, _, _, _]) rfl fun b5 _ hs => ?_)
        refine O_y hs (Y_assign rfl ?_)
        refine O_n (S_stA hs Tryd.sizeOf28 rfl rfl (vs := [_, _, _, _, _, _, _, _, _]) rfl (rfl) (by simp) (cs' := [_, _, _, _, _, _, _, _, _]) rfl fun _ hs => ?_)
        refine O_nil (T_sub [(0, _), (3, _), (4, _), (5, _), (20, _), (21, _), (22, _)] ⟨rfl, rfl, rfl, rfl, rfl, rfl, rfl, trivial⟩ ?_)
        refine T_seq (T_seq (T_region rfl ?_))
        refine O_y hs (Y_ldA 0 Tryd.isAgg28 Tryd.sizeOf28 rfl rfl (vs := [_, _, _, _, _, _, _, _, _]) rfl rfl ?_)
        refine O_y hs (Y_move rfl ?_)
        refine O_s (S_call (H1 := []) hs rfl Tryd.func14 rfl (by kernel_rfl) (chk_ok (n := ⟨kd, [c0, c1, c2, c3], ll, rr, mn, mx⟩) (i := k) hco) fun v1 G' H' _ hR hG29 hs => ?_)
        obtain ⟨rfl, rfl⟩ := hR
        replace hs : St _ _ [_, _] _ := hs
        replace hx := hx.mono hG29
        refine O_y hs (Y_assign rfl ?_)
        refine O_nil (T_sub [(0, _), (3, _), (5, _), (6, _), (20, _), (21, _), (22, _)] ⟨rfl, rfl, rfl, rfl, rfl, rfl, rfl, trivial⟩ ?_)
        refine T_seq (T_region rfl ?_)
        refine O_y hs (Y_move rfl ?_)
        refine O_y hs (Y_cmpS rfl rfl rfl (fun h31 => ?_) (fun h31 => ?_))
        · -- h31: True
          dsimp only [cmpP] at h31
          refine O_nil (T_sub [(0, _), (3, _), (5, _), (6, _), (20, _), (21, _), (22, _), (31, _)] ⟨rfl, rfl, rfl, rfl, rfl, rfl, rfl, rfl, trivial⟩ ?_)
          refine T_condT rfl (T_seq (T_region rfl ?_))
          refine O_y hs (Y_move rfl ?_)
          refine O_y hs (Y_assign rfl ?_)
          refine O_nil (T_sub [(2, _)] ⟨rfl, trivial⟩ ?_)
          refine T_ret ?_
          refine Rt_fin (vs := [_]) Tryd.results5 rfl ⟨rfl, trivial⟩ ?_
          try dsimp only [tup]
          have he := errF_bad (l := l) (k := k) (by omega) (by rw [← hnk]; exact h31)
          rw [valid_err (by omega) (by omega) (by rw [herr, he, ← hnk]; exact h31), herr, he, ← hnk]
          exact ⟨_, [], hs.done, rfl, rfl⟩
        · -- h31: False
          dsimp only [cmpP] at h31
          refine O_nil (T_sub [(0, _), (3, _), (5, _), (6, _), (20, _), (21, _), (22, _), (31, _)] ⟨rfl, rfl, rfl, rfl, rfl, rfl, rfl, rfl, trivial⟩ ?_)
          refine T_condF rfl (T_skip ?_)
          have hne : nodeE ⟨kd, [c0, c1, c2, c3], ll, rr, mn, mx⟩ k = 0 := by omega
          refine T_seq (T_seq (T_region rfl ?_))
          refine O_y hs (Y_fieldAddr FO28_0 rfl (m := 0) rfl ?_)
          refine O_y hs (Y_ld 0 Tryd.isAgg3 rfl rfl rfl ?_)
          refine O_s (S_call (H1 := []) hs rfl Tryd.func15 rfl (by kernel_rfl) (ari_ok) fun v2 G' H' _ hR hG35 hs => ?_)
          obtain ⟨rfl, rfl⟩ := hR
          replace hs : St _ _ [_, _] _ := hs
          replace hx := hx.mono hG35
          refine O_y hs (Y_cmpS rfl rfl rfl (fun h36 => ?_) (fun h36 => ?_))
          · -- h36: True
            dsimp only [cmpP] at h36
            refine O_nil (T_sub [(0, _), (3, _), (5, _), (20, _), (21, _), (22, _), (36, _)] ⟨rfl, rfl, rfl, rfl, rfl, rfl, rfl, trivial⟩ ?_)
            have hop := ops_l (nodeE_ops hne) (by dsimp only; omega)
            dsimp only at hop
            obtain ⟨L, rfl⟩ : ∃ L : Nat, ll = (L : Int) := Int.eq_ofNat_of_zero_le hop.1
            have hL : L < cs.length := by omega
            refine T_condT rfl (T_region rfl ?_)
            refine O_y hs (Y_move rfl ?_)
            refine O_y hs (Y_fieldAddr FO28_2 rfl (m := 5) rfl ?_)
            refine O_y hs (Y_ld 0 Tryd.isAgg3 rfl rfl rfl ?_)
            refine O_y hs (Y_idxRow (L) Tryd.underlying44 Tryd.sizeOf3 rfl rfl rfl (by omega) ?_)
            refine O_y hs (Y_ldRow 1 rfl Tryd.isAgg3 rfl (by rw [List.getElem?_map, List.getElem?_eq_getElem hL]; rfl) ?_)
            refine O_y hs (Y_add (c := ((cs[L]'hL + 1 : Nat) : Int)) rfl rfl (by omega) (by have := hcb _ (List.getElem_mem hL); omega) ?_)
            refine O_y hs (Y_idxRow (L) Tryd.underlying44 Tryd.sizeOf3 rfl rfl rfl (by omega) ?_)
            have hs := hs.front 1 rfl (H' := [_, _]) rfl
            refine O_n (S_stRow hs Tryd.sizeOf3 rfl rfl rfl (by omega) fun _ hs => ?_)
            refine O_nil (T_sub [(0, _), (3, _), (5, _), (20, _), (21, _), (22, _)] ⟨rfl, rfl, rfl, rfl, rfl, rfl, trivial⟩ ?_)
            rw [set_mod hL] at hs
            refine T_seq (T_region rfl ?_)
            refine O_y hs (Y_fieldAddr FO28_0 rfl (m := 0) rfl ?_)
            refine O_y hs (Y_ld 1 Tryd.isAgg3 rfl rfl rfl ?_)
            refine O_s (S_call (H1 := []) hs rfl Tryd.func15 rfl (by kernel_rfl) (ari_ok) fun v3 G' H' _ hR hG46 hs => ?_)
            obtain ⟨rfl, rfl⟩ := hR
            replace hs : St _ _ [_, _] _ := hs
            replace hx := hx.mono hG46
            refine O_y hs (Y_cmpS rfl rfl rfl (fun h47 => ?_) (fun h47 => ?_))
            · -- h47: True
              dsimp only [cmpP] at h47
              refine O_nil (T_sub [(0, _), (3, _), (5, _), (20, _), (21, _), (22, _), (47, _)] ⟨rfl, rfl, rfl, rfl, rfl, rfl, rfl, trivial⟩ ?_)
              have hop2 := ops_r (nodeE_ops hne) (by dsimp only; omega)
              dsimp only at hop2
              obtain ⟨R, rfl⟩ : ∃ R : Nat, rr = (R : Int) := Int.eq_ofNat_of_zero_le hop2.1
              have hR : R < (cs.modify L (· + 1)).length := by rw [List.length_modify]; omega
              refine T_condT rfl (T_region rfl ?_)
              refine O_y hs (Y_move rfl ?_)
              refine O_y hs (Y_fieldAddr FO28_3 rfl (m := 6) rfl ?_)
              refine O_y hs (Y_ld 1 Tryd.isAgg3 rfl rfl rfl ?_)
              refine O_y hs (Y_idxRow (R) Tryd.underlying44 Tryd.sizeOf3 rfl rfl rfl (by omega) ?_)
              refine O_y hs (Y_ldRow 0 rfl Tryd.isAgg3 rfl (by rw [List.getElem?_map, List.getElem?_eq_getElem hR]; rfl) ?_)
              refine O_y hs (Y_add (c := (((cs.modify L (· + 1))[R]'hR + 1 : Nat) : Int)) rfl rfl (by omega) (by have := mod_le hcb _ (List.getElem_mem hR); omega) ?_)
              refine O_y hs (Y_idxRow (R) Tryd.underlying44 Tryd.sizeOf3 rfl rfl rfl (by omega) ?_)
              refine O_n (S_stRow hs Tryd.sizeOf3 rfl rfl rfl (by omega) fun _ hs => ?_)
              refine O_nil (T_sub [(0, _), (3, _), (20, _), (21, _), (22, _)] ⟨rfl, rfl, rfl, rfl, rfl, trivial⟩ ?_)
              rw [set_mod hR] at hs
              refine T_region rfl ?_
              refine O_y hs (Y_add (c := ((k + 1 : Nat) : Int)) rfl rfl (by omega) (by omega) ?_)
              refine O_y hs (Y_move rfl ?_)
              refine O_nil ⟨_, ?_, [(0, _), (3, _), (20, _), (21, _), (22, _)], ⟨rfl, rfl, rfl, rfl, rfl, trivial⟩, ⟨k + 1, stepC cs l[k], _, by omega, by rw [foldl_take_succ _ _ _ _ (by omega), ← hcs], by rw [herr]; exact errF_step (by omega) (by rw [← hnk]; exact hne), by rw [stepC_len]; exact hcl, fun x hx => by have := stepC_le hcb x hx; omega, rfl, rfl, by rw [← hnk]; unfold stepC; rw [if_pos (by dsimp only; omega)]; exact hs.weak hs.le (Ghost.le.refl _) (List.sublist_append_left [_] _)⟩⟩
              omega
            · -- h47: False
              dsimp only [cmpP] at h47
              refine O_nil (T_sub [(0, _), (3, _), (5, _), (20, _), (21, _), (22, _), (47, _)] ⟨rfl, rfl, rfl, rfl, rfl, rfl, rfl, trivial⟩ ?_)
              refine T_condF rfl (T_skip ?_)
              refine T_region rfl ?_
              refine O_y hs (Y_add (c := ((k + 1 : Nat) : Int)) rfl rfl (by omega) (by omega) ?_)
              refine O_y hs (Y_move rfl ?_)
              refine O_nil ⟨_, ?_, [(0, _), (3, _), (20, _), (21, _), (22, _)], ⟨rfl, rfl, rfl, rfl, rfl, trivial⟩, ⟨k + 1, stepC cs l[k], _, by omega, by rw [foldl_take_succ _ _ _ _ (by omega), ← hcs], by rw [herr]; exact errF_step (by omega) (by rw [← hnk]; exact hne), by rw [stepC_len]; exact hcl, fun x hx => by have := stepC_le hcb x hx; omega, rfl, rfl, by rw [← hnk]; unfold stepC; rw [if_neg (by dsimp only; omega), if_pos (by dsimp only; omega)]; exact hs.weak hs.le (Ghost.le.refl _) (List.sublist_append_left [_] _)⟩⟩
              omega
          · -- h36: False
            dsimp only [cmpP] at h36
            refine O_nil (T_sub [(0, _), (3, _), (5, _), (20, _), (21, _), (22, _), (36, _)] ⟨rfl, rfl, rfl, rfl, rfl, rfl, rfl, trivial⟩ ?_)
            refine T_condF rfl (T_skip ?_)
            refine T_seq (T_region rfl ?_)
            refine O_y hs (Y_fieldAddr FO28_0 rfl (m := 0) rfl ?_)
            refine O_y hs (Y_ld 0 Tryd.isAgg3 rfl rfl rfl ?_)
            refine O_s (S_call (H1 := []) hs rfl Tryd.func15 rfl (by kernel_rfl) (ari_ok) fun v4 G' H' _ hR hG46 hs => ?_)
            obtain ⟨rfl, rfl⟩ := hR
            replace hs : St _ _ [_, _] _ := hs
            replace hx := hx.mono hG46
            refine O_y hs (Y_cmpF rfl rfl rfl (by omega) ?_)
            refine O_nil (T_sub [(0, _), (3, _), (5, _), (20, _), (21, _), (22, _), (47, _)] ⟨rfl, rfl, rfl, rfl, rfl, rfl, rfl, trivial⟩ ?_)
            refine T_condF rfl (T_skip ?_)
            refine T_region rfl ?_
            refine O_y hs (Y_add (c := ((k + 1 : Nat) : Int)) rfl rfl (by omega) (by omega) ?_)
            refine O_y hs (Y_move rfl ?_)
            have hs := hs.front 1 rfl (H' := [_, _]) rfl
            refine O_nil ⟨_, ?_, [(0, _), (3, _), (20, _), (21, _), (22, _)], ⟨rfl, rfl, rfl, rfl, rfl, trivial⟩, ⟨k + 1, stepC cs l[k], _, by omega, by rw [foldl_take_succ _ _ _ _ (by omega), ← hcs], by rw [herr]; exact errF_step (by omega) (by rw [← hnk]; exact hne), by rw [stepC_len]; exact hcl, fun x hx => by have := stepC_le hcb x hx; omega, rfl, rfl, by rw [← hnk]; unfold stepC; rw [if_neg (by dsimp only; omega), if_neg (by dsimp only; omega)]; exact hs.weak hs.le (Ghost.le.refl _) (List.sublist_append_left [_] _)⟩⟩
            omega
      · -- h23: False
        dsimp only [cmpP] at h23
        refine O_nil (T_sub [(0, _), (3, _), (20, _), (21, _), (22, _), (23, _)] ⟨rfl, rfl, rfl, rfl, rfl, rfl, trivial⟩ ?_)
        refine T_seq (T_condF rfl (T_exit ?_))
        obtain rfl : k = l.length := by omega
        rw [List.take_length] at hcs
        have hcs' : cntF l = cs := hcs.symm
        rw [List.drop_length] at herr
        have h0e : errF 0 l = 0 := herr
        obtain ⟨_, hG17, hsl, hs⟩ := hs.fixRow noM
        have hI := ints_nat hsl (by omega)
        refine T_seq (T_seq (T_region rfl ?_))
        refine O_y hs (Y_move rfl ?_)
        refine O_y hs (Y_move rfl ?_)
        refine O_y hs (Y_len Tryd.underlying30 rfl ?_)
        refine O_y hs (Y_sub (c := ((l.length - 1 : Nat) : Int)) rfl rfl (by omega) (by omega) ?_)
        refine O_y hs (Y_sliceI hI 0 (l.length - 1) Tryd.underlying44 Tryd.sizeOf3 rfl rfl ⟨_, _, rfl, rfl⟩ (by omega) (by rw [List.length_map]; omega) fun s60 hs60 => ?_)
        obtain ⟨A60, c60, rfl, _⟩ := id hs60
        refine O_y hs (Y_len Tryd.underlying44 rfl ?_)
        refine O_y hs (Y_move rfl ?_)
        refine O_nil (T_sub [(60, _), (61, _), (62, _)] ⟨rfl, rfl, rfl, trivial⟩ ?_)
        refine T_block (T_loop (fun m E w => ∃ (j : Nat) (G' : Ghost), j ≤ l.length - 1 ∧ (∀ i, i < j → cs.getD i 0 = 1) ∧ Ints G' (.slice A60 (((cs.map fun n : Nat => (n : Int)).drop 0).take (l.length - 1 - 0)).length c60) (((cs.map fun n : Nat => (n : Int)).drop 0).take (l.length - 1 - 0)) ∧ m = l.length - 1 - j ∧ E = ⟨[], [(60, .slice A60 (((cs.map fun n : Nat => (n : Int)).drop 0).take (l.length - 1 - 0)).length c60), (61, .int .i64 ((((cs.map fun n : Nat => (n : Int)).drop 0).take (l.length - 1 - 0)).length : Int)), (62, .int .i64 (j : Int))]⟩ ∧ St ⟨w0, G, feet []⟩ G' [] w) (L := [(60, _), (61, _), (62, _)]) ⟨rfl, rfl, rfl, trivial⟩ (⟨0, _, by omega, fun i hi => absurd hi (by omega), hs60, rfl, rfl, hs⟩) fun m E w hI => ?_)
        obtain ⟨j, G', hj, hone, hsj, rfl, rfl, hs⟩ := hI
        have hx := hx0.mono hs.le
        have hlen : (((cs.map fun n : Nat => (n : Int)).drop 0).take (l.length - 1 - 0)).length = l.length - 1 := by rw [List.length_take, List.length_drop, List.length_map]; omega
        refine T_seq (T_region rfl ?_)
        refine O_y hs (Y_cmpS rfl rfl rfl (fun h63 => ?_) (fun h63 => ?_))
        · -- h63: True
          dsimp only [cmpP] at h63
          refine O_nil (T_sub [(60, _), (61, _), (62, _), (63, _)] ⟨rfl, rfl, rfl, rfl, trivial⟩ ?_)
          refine T_seq (T_condT rfl (T_skip ?_))
          refine T_seq (T_block (T_seq (T_region rfl ?_)))
          refine O_y hs (Y_idxI hsj j Tryd.underlying44 Tryd.sizeOf3 rfl rfl rfl (by omega) fun p64 hp64 => ?_)
          refine O_y hs (Y_ldG Tryd.isAgg3 rfl (hp64) ?_)
          refine O_y hs (Y_assign rfl ?_)
          refine O_nil (T_sub [(8, _), (60, _), (61, _), (62, _)] ⟨rfl, rfl, rfl, rfl, trivial⟩ ?_)
          refine T_seq (T_region rfl ?_)
          refine O_y hs (Y_move rfl ?_)
          have hel : (((cs.map fun n : Nat => (n : Int)).drop 0).take (l.length - 1 - 0))[j]'(by omega) = ((cs[j]'(by omega) : Nat) : Int) := by simp
          refine O_y hs (Y_cmpS rfl rfl rfl (fun h67 => ?_) (fun h67 => ?_))
          · -- h67: True
            dsimp only [cmpP] at h67
            refine O_nil (T_sub [(60, _), (61, _), (62, _), (67, _)] ⟨rfl, rfl, rfl, rfl, trivial⟩ ?_)
            refine T_condT rfl (T_seq (T_region rfl ?_))
            refine O_y hs (Y_assign rfl ?_)
            refine O_nil (T_sub [(2, _)] ⟨rfl, trivial⟩ ?_)
            refine T_ret ?_
            refine Rt_fin (vs := [_]) Tryd.results5 rfl ⟨rfl, trivial⟩ ?_
            try dsimp only [tup]
            rw [valid_cnt (by omega) (by omega) h0e, hcs', ones_not (i := j) (by omega) (by omega) (fun h => h67 (by rw [hel]; omega))]
            exact ⟨_, [], hs.done, rfl, rfl⟩
          · -- h67: False
            dsimp only [cmpP] at h67
            refine O_nil (T_sub [(60, _), (61, _), (62, _), (67, _)] ⟨rfl, rfl, rfl, rfl, trivial⟩ ?_)
            refine T_condF rfl (T_skip ?_)
            refine T_region rfl ?_
            refine O_y hs (Y_add (c := ((j + 1 : Nat) : Int)) rfl rfl (by omega) (by omega) ?_)
            refine O_y hs (Y_move rfl ?_)
            have h1j : cs.getD j 0 = 1 := by rw [List.getD_eq_getElem?_getD, List.getElem?_eq_getElem (by omega), Option.getD_some]; omega
            refine O_nil ⟨_, ?_, [(60, _), (61, _), (62, _)], ⟨rfl, rfl, rfl, trivial⟩, ⟨j + 1, _, by omega, fun i hi => (Nat.lt_or_ge i j).elim (hone i) (fun h' => by rw [show i = j by omega]; exact h1j), hsj, rfl, rfl, hs⟩⟩
            omega
        · -- h63: False
          dsimp only [cmpP] at h63
          refine O_nil (T_sub [(60, _), (61, _), (62, _), (63, _)] ⟨rfl, rfl, rfl, rfl, trivial⟩ ?_)
          refine T_seq (T_condF rfl (T_exit ?_))
          refine T_seq (T_region rfl ?_)
          refine O_y hs (Y_assign rfl ?_)
          refine O_nil (T_sub [(2, _)] ⟨rfl, trivial⟩ ?_)
          refine T_ret ?_
          refine Rt_fin (vs := [_]) Tryd.results5 rfl ⟨rfl, trivial⟩ ?_
          try dsimp only [tup]
          rw [valid_cnt (by omega) (by omega) h0e, hcs', ones_all (m := l.length - 1) (fun i hi => hone i (by omega))]
          exact ⟨_, [], hs.done, rfl, rfl⟩

end Go.Proofs.YtkmgbcjfidpmgaaDoor
