import Derived.Test.YtffbfibpfnlfeaaGreatDoorExWalks2
import Derived.Test.YtffbfibpfnlfeaaGreatDoorProg
import Derived.Test.YtffbfibpfnlfeaaGreatDoorPlain
import Derived.Test.YtffbfibpfnlfeaaGreatDoorShelf
namespace Go.Proofs.YtffbfibpfnlfeaaGreatDoor
open Go Go.Ex Go.RowKit
theorem FO77_0 : fieldOff Tryz.prog 77 0 = some 0 := by kernel_rfl
theorem FO77_1 : fieldOff Tryz.prog 77 1 = some 1 := by kernel_rfl
theorem PL24 : places Tryz.prog 24 = some [(0, 1), (1, 1), (2, 1)] := by kernel_rfl
theorem PL43 : places Tryz.prog 43 = some [(0, 1), (1, 1), (2, 1), (3, 1)] := by kernel_rfl
theorem PL77 : places Tryz.prog 77 = some [(0, 1), (1, 4)] := by kernel_rfl
theorem PL81 : places Tryz.prog 81 = some [(0, 1), (1, 1)] := by kernel_rfl
theorem PL84 : places Tryz.prog 84 = some [(0, 1), (1, 1)] := by kernel_rfl
theorem TI22 : TI Tryz.prog 22 (.slice none 0 0) 1 24 := TI.of (by kernel_rfl)
theorem TI27 : TI Tryz.prog 27 (.agg #[.int .u64 0, .int .u64 0, .int .u64 0, .int .u64 0]) 4 32 := TI.of (by kernel_rfl)
theorem TI4 : TI Tryz.prog 4 (.bool false) 1 1 := TI.of (by kernel_rfl)
theorem TI81 : TI Tryz.prog 81 (.agg #[.int .i64 0, .slice none 0 0]) 2 32 := TI.of (by kernel_rfl)
theorem TI84 : TI Tryz.prog 84 (.agg #[.bool false, .int .u8 0]) 2 2 := TI.of (by kernel_rfl)
theorem TI87 : TI Tryz.prog 87 (.slice none 0 0) 1 24 := TI.of (by kernel_rfl)

set_option maxHeartbeats 400000 in
set_option maxRecDepth 10000 in
theorem cnan_ok {G : Ghost} {x : UInt8} :
    FnOk Tryz.prog 108 [.int .u8 (x.toNat : Int)] G [] fun r _ H' => H' = [] ∧ r = .bool false := by
  refine FnOk.of_T [(0, _)] Tryz.func108 rfl Tryz.ntmps108 (by simp) rfl fun w0 hs => ?_
  refine T_seq (T_region rfl ?_)
  refine O_y hs (Y_assign rfl ?_)
  refine O_nil (T_sub [(0, _)] ⟨rfl, trivial⟩ ?_)
  refine T_seq (T_region rfl ?_)
  refine O_y hs (Y_move rfl ?_)
  refine O_y hs (Y_move rfl ?_)
  refine O_y hs (Y_cmpF rfl rfl rfl (by simp [cmpP]) ?_)
  refine O_y hs (Y_assign rfl ?_)
  refine O_nil (T_sub [(2, _)] ⟨rfl, trivial⟩ ?_)
  refine T_ret ?_
  refine Rt_fin (vs := [_]) Tryz.results108 rfl ⟨rfl, trivial⟩ ?_
  try dsimp only [tup]
  exact ⟨_, [], hs.done, rfl, rfl⟩

set_option maxHeartbeats 400000 in
set_option maxRecDepth 10000 in
theorem snan_ok {G : Ghost} {x : UInt8} :
    FnOk Tryz.prog 90 [.int .u8 (x.toNat : Int)] G [] fun r _ H' => H' = [] ∧ r = .bool false := by
  refine FnOk.of_T [(0, _)] Tryz.func90 rfl Tryz.ntmps90 (by simp) rfl fun w0 hs => ?_
  refine T_seq (T_region rfl ?_)
  refine O_y hs (Y_assign rfl ?_)
  refine O_nil (T_sub [(0, _)] ⟨rfl, trivial⟩ ?_)
  refine T_seq (T_region rfl ?_)
  refine O_y hs (Y_move rfl ?_)
  refine O_y hs (Y_move rfl ?_)
  refine O_y hs (Y_cmpF rfl rfl rfl (by simp [cmpP]) ?_)
  refine O_y hs (Y_assign rfl ?_)
  refine O_nil (T_sub [(2, _)] ⟨rfl, trivial⟩ ?_)
  refine T_ret ?_
  refine Rt_fin (vs := [_]) Tryz.results90 rfl ⟨rfl, trivial⟩ ?_
  try dsimp only [tup]
  exact ⟨_, [], hs.done, rfl, rfl⟩

set_option maxHeartbeats 400000 in
set_option maxRecDepth 10000 in
theorem less_ok {G : Ghost} {x y : UInt8} :
    FnOk Tryz.prog 89 [.int .u8 (x.toNat : Int), .int .u8 (y.toNat : Int)] G [] fun r _ H' => H' = [] ∧ r = .bool (decide (x < y)) := by
  refine FnOk.of_T [(0, _), (1, _)] Tryz.func89 rfl Tryz.ntmps89 (by simp) rfl fun w0 hs => ?_
  refine T_seq (T_region rfl ?_)
  refine O_y hs (Y_assign rfl ?_)
  refine O_nil (T_sub [(0, _), (1, _)] ⟨rfl, rfl, trivial⟩ ?_)
  refine T_seq (T_region rfl ?_)
  refine O_y hs (Y_move rfl ?_)
  refine O_s (S_call (H1 := []) hs rfl Tryz.func108 rfl (by kernel_rfl) (cnan_ok) fun v1 G' H' _ hR hG6 hs => ?_)
  obtain ⟨rfl, rfl⟩ := hR
  replace hs : St _ _ [] _ := hs
  refine O_y hs (Y_move rfl ?_)
  refine O_no 7 rfl rfl ?_
  refine O_no 7 rfl rfl ?_
  refine O_no 7 rfl rfl ?_
  refine O_y hs (Y_pickF rfl rfl ?_)
  refine O_y hs (Y_move rfl ?_)
  refine O_yy 12 hs rfl rfl (Y_move rfl ?_)
  refine O_yy 12 hs rfl rfl (Y_move rfl ?_)
  refine O_yy 12 hs rfl rfl (Y_cmpS rfl rfl rfl (fun h15 => ?_) (fun h15 => ?_))
  · -- h15: True
    dsimp only [cmpP] at h15
    refine O_y hs (Y_pickF rfl rfl ?_)
    refine O_y hs (Y_assign rfl ?_)
    refine O_nil (T_sub [(4, _)] ⟨rfl, trivial⟩ ?_)
    refine T_ret ?_
    refine Rt_fin (vs := [_]) Tryz.results89 rfl ⟨rfl, trivial⟩ ?_
    try dsimp only [tup]
    exact ⟨_, [], hs.done, rfl, congrArg Value.bool (by rw [eq_comm]; first | exact decide_eq_true (UInt8.lt_iff_toNat_lt.2 (by omega)) | exact decide_eq_false (fun h => by have := UInt8.lt_iff_toNat_lt.1 h; omega))⟩
  · -- h15: False
    dsimp only [cmpP] at h15
    refine O_y hs (Y_pickF rfl rfl ?_)
    refine O_y hs (Y_assign rfl ?_)
    refine O_nil (T_sub [(4, _)] ⟨rfl, trivial⟩ ?_)
    refine T_ret ?_
    refine Rt_fin (vs := [_]) Tryz.results89 rfl ⟨rfl, trivial⟩ ?_
    try dsimp only [tup]
    exact ⟨_, [], hs.done, rfl, congrArg Value.bool (by rw [eq_comm]; first | exact decide_eq_true (UInt8.lt_iff_toNat_lt.2 (by omega)) | exact decide_eq_false (fun h => by have := UInt8.lt_iff_toNat_lt.1 h; omega))⟩

set_option maxHeartbeats 400000 in
set_option maxRecDepth 10000 in
theorem isort_aa {G : Ghost} {v1 : Value} :
    FnOk Tryz.prog 98 [v1, .int .i64 0, .int .i64 2] G [.row 5 1 v1 2 [.int .u8 97, .int .u8 97]] fun _ _ H' => H' = [.row 5 1 v1 2 [.int .u8 97, .int .u8 97]] := by
  refine FnOk.of_T [(0, _), (1, _), (2, _)] Tryz.func98 rfl Tryz.ntmps98 (by simp) rfl fun w0 hs => ?_
  refine T_seq (T_region rfl ?_)
  refine O_y hs (Y_move rfl ?_)
  refine O_y hs (Y_add (c := (1)) rfl rfl (by decide) (by decide) ?_)
  refine O_y hs (Y_assign rfl ?_)
  refine O_nil (T_sub [(0, _), (1, _), (2, _), (6, _)] ⟨rfl, rfl, rfl, rfl, trivial⟩ ?_)
  refine T_block (T_loopN 2 (L := [(0, _), (1, _), (2, _), (6, _)]) ⟨rfl, rfl, rfl, rfl, trivial⟩ (U_go ?_))
  refine T_seq (T_seq (T_region rfl ?_))
  refine O_y hs (Y_move rfl ?_)
  refine O_y hs (Y_move rfl ?_)
  refine O_y hs (Y_cmpT rfl rfl rfl (by decide) ?_)
  refine O_nil (T_sub [(0, _), (1, _), (2, _), (6, _), (12, _)] ⟨rfl, rfl, rfl, rfl, rfl, trivial⟩ ?_)
  refine T_condT rfl (T_skip ?_)
  refine T_seq (T_block (T_seq (T_region rfl ?_)))
  refine O_y hs (Y_move rfl ?_)
  refine O_y hs (Y_assign rfl ?_)
  refine O_nil (T_sub [(0, _), (1, _), (2, _), (6, _), (7, _)] ⟨rfl, rfl, rfl, rfl, rfl, trivial⟩ ?_)
  refine T_block (T_loopN 2 (L := [(0, _), (1, _), (2, _), (6, _), (7, _)]) ⟨rfl, rfl, rfl, rfl, rfl, trivial⟩ (U_go ?_))
  refine T_seq (T_seq (T_drawS [0, 1, 2, 3, 4, 5, 6, 7, 8, 9, 10, 11, 12, 13, 14] hs (by kernel_rfl) ?_))
  replace hs := hs.drew
  refine A_take 0 rfl (by kernel_rfl) rfl hs (Y_move rfl ?_)
  refine A_take 1 rfl (by kernel_rfl) rfl hs (Y_move rfl ?_)
  refine A_take 2 rfl (by kernel_rfl) rfl hs (Y_cmpT rfl rfl rfl (by decide) ?_)
  refine A_take 3 rfl (by kernel_rfl) rfl hs (Y_move rfl ?_)
  refine A_take 4 rfl (by kernel_rfl) rfl hs (Y_move rfl ?_)
  refine A_take 5 rfl (by kernel_rfl) rfl hs (Y_move rfl ?_)
  refine A_take 6 rfl (by kernel_rfl) rfl hs (Y_idxOwn (j := 1) 1 0 rfl Tryz.underlying22 Tryz.sizeOf5 rfl rfl rfl (by decide) (u := .int .u8 97) rfl hs fun p22 hp22 => ?_)
  refine A_take 7 rfl (by kernel_rfl) rfl hs (Y_ldOwn Tryz.isAgg5 rfl hp22 ?_)
  refine A_take 8 rfl (by kernel_rfl) rfl hs (Y_move rfl ?_)
  refine A_take 9 rfl (by kernel_rfl) rfl hs (Y_move rfl ?_)
  refine A_take 10 rfl (by kernel_rfl) rfl hs (Y_sub (c := (0)) rfl rfl (by decide) (by decide) ?_)
  refine A_take 11 rfl (by kernel_rfl) rfl hs (Y_idxOwn (j := 0) 0 0 rfl Tryz.underlying22 Tryz.sizeOf5 rfl rfl rfl (by decide) (u := .int .u8 97) rfl hs fun p27 hp27 => ?_)
  refine A_take 12 rfl (by kernel_rfl) rfl hs (Y_ldOwn Tryz.isAgg5 rfl hp27 ?_)
  have hle := hs.le
  refine A_only 13 rfl (by kernel_rfl) rfl (S_call (H1 := []) hs rfl Tryz.func89 rfl (by kernel_rfl) (less_ok (x := 97) (y := 97)) fun v1 G' H' _ hR hG29 hs => ?_)
  obtain ⟨rfl, rfl⟩ := hR
  replace hs : St _ _ [_] _ := hs
  refine A_moreS hs hle hG29 (List.Sublist.refl _) ?_
  refine A_take 14 rfl (by kernel_rfl) rfl hs (Y_pickT rfl rfl ?_)
  refine A_done (by kernel_rfl) (T_sub [(0, _), (1, _), (2, _), (6, _), (7, _), (30, _)] ⟨rfl, rfl, rfl, rfl, rfl, rfl, trivial⟩ ?_)
  refine T_condF rfl (T_exit ?_)
  refine T_region rfl ?_
  refine O_y hs (Y_move rfl ?_)
  refine O_y hs (Y_add (c := (2)) rfl rfl (by decide) (by decide) ?_)
  refine O_y hs (Y_assign rfl ?_)
  refine O_nil ⟨[(0, _), (1, _), (2, _), (6, _)], ⟨rfl, rfl, rfl, rfl, trivial⟩, U_go ?_⟩
  refine T_seq (T_seq (T_region rfl ?_))
  refine O_y hs (Y_move rfl ?_)
  refine O_y hs (Y_move rfl ?_)
  refine O_y hs (Y_cmpF rfl rfl rfl (by decide) ?_)
  refine O_nil (T_sub [(0, _), (1, _), (2, _), (6, _), (12, _)] ⟨rfl, rfl, rfl, rfl, rfl, trivial⟩ ?_)
  refine T_condF rfl (T_exit ?_)
  dsimp only [Ex.sq, Ex.lp, Ex.bk]
  rw [show Nat.beq _ _ = true from Nat.beq_refl _, cond_true]
  refine Rt_finN (vs := []) Tryz.results98 rfl trivial ?_
  try dsimp only [tup]
  exact ⟨_, _, hs, rfl⟩

set_option maxHeartbeats 400000 in
set_option maxRecDepth 10000 in
theorem pdq_aa {G : Ghost} {v1 : Value} {z : Int} :
    FnOk Tryz.prog 84 [v1, .int .i64 0, .int .i64 2, .int .i64 z] G [.row 5 1 v1 2 [.int .u8 97, .int .u8 97]] fun _ _ H' => H' = [.row 5 1 v1 2 [.int .u8 97, .int .u8 97]] := by
  refine FnOk.of_T [(0, _), (1, _), (2, _), (3, _)] Tryz.func84 rfl Tryz.ntmps84 (by simp) rfl fun w0 hs => ?_
  refine T_seq (T_region rfl ?_)
  refine O_y hs (Y_assign rfl ?_)
  refine O_nil (T_sub [(0, _), (1, _), (2, _), (3, _), (8, _)] ⟨rfl, rfl, rfl, rfl, rfl, trivial⟩ ?_)
  refine T_seq (T_region rfl ?_)
  refine O_y hs (Y_assign rfl ?_)
  refine O_nil (T_sub [(0, _), (1, _), (2, _), (3, _), (8, _), (9, _)] ⟨rfl, rfl, rfl, rfl, rfl, rfl, trivial⟩ ?_)
  refine T_block (T_loopN 1 (L := [(0, _), (1, _), (2, _), (3, _), (8, _), (9, _)]) ⟨rfl, rfl, rfl, rfl, rfl, rfl, trivial⟩ (U_go ?_))
  refine T_block (T_seq (T_region rfl ?_))
  refine O_y hs (Y_move rfl ?_)
  refine O_y hs (Y_move rfl ?_)
  refine O_y hs (Y_sub (c := (2)) rfl rfl (by decide) (by decide) ?_)
  refine O_y hs (Y_assign rfl ?_)
  refine O_nil (T_sub [(0, _), (1, _), (2, _), (3, _), (8, _), (9, _), (10, _)] ⟨rfl, rfl, rfl, rfl, rfl, rfl, rfl, trivial⟩ ?_)
  refine T_seq (T_seq (T_region rfl ?_))
  refine O_y hs (Y_move rfl ?_)
  refine O_y hs (Y_cmpT rfl rfl rfl (by decide) ?_)
  refine O_nil (T_sub [(0, _), (1, _), (2, _), (3, _), (8, _), (9, _), (10, _), (23, _)] ⟨rfl, rfl, rfl, rfl, rfl, rfl, rfl, rfl, trivial⟩ ?_)
  refine T_condT rfl (T_seq (T_region rfl ?_))
  refine O_y hs (Y_move rfl ?_)
  refine O_y hs (Y_move rfl ?_)
  refine O_y hs (Y_move rfl ?_)
  refine O_s (S_call (H1 := [_]) hs rfl Tryz.func98 rfl (by kernel_rfl) (isort_aa) fun v1 G' H' _ hR hG27 hs => ?_)
  obtain rfl := hR
  replace hs : St _ _ [_] _ := hs
  refine O_nil (T_sub [] trivial ?_)
  refine T_ret ?_
  refine Rt_fin (vs := []) Tryz.results84 rfl trivial ?_
  try dsimp only [tup]
  exact ⟨_, _, hs, rfl⟩

set_option maxHeartbeats 400000 in
set_option maxRecDepth 10000 in
theorem len64_2 {G : Ghost} :
    FnOk Tryz.prog 107 [u64V 2] G [] fun r _ H' => H' = [] ∧ r = .int .i64 2 := by
  refine FnOk.of_T [(0, _)] Tryz.func107 rfl Tryz.ntmps107 (by simp) rfl fun w0 hs => ?_
  refine T_seq (T_region rfl ?_)
  refine O_y hs (Y_assign rfl ?_)
  refine O_nil (T_sub [(0, _), (2, _)] ⟨rfl, rfl, trivial⟩ ?_)
  refine T_seq (T_seq (T_region rfl ?_))
  refine O_y hs (Y_move rfl ?_)
  refine O_y hs (Y_cmpF rfl rfl rfl (by decide) ?_)
  refine O_nil (T_sub [(0, _), (2, _), (4, _)] ⟨rfl, rfl, rfl, trivial⟩ ?_)
  refine T_condF rfl (T_skip ?_)
  refine T_seq (T_seq (T_region rfl ?_))
  refine O_y hs (Y_move rfl ?_)
  refine O_y hs (Y_cmpF rfl rfl rfl (by decide) ?_)
  refine O_nil (T_sub [(0, _), (2, _), (8, _)] ⟨rfl, rfl, rfl, trivial⟩ ?_)
  refine T_condF rfl (T_skip ?_)
  refine T_seq (T_seq (T_region rfl ?_))
  refine O_y hs (Y_move rfl ?_)
  refine O_y hs (Y_cmpF rfl rfl rfl (by decide) ?_)
  refine O_nil (T_sub [(0, _), (2, _), (14, _)] ⟨rfl, rfl, rfl, trivial⟩ ?_)
  refine T_condF rfl (T_skip ?_)
  refine T_seq (T_region rfl ?_)
  refine O_y hs (Y_move rfl ?_)
  refine O_y hs (Y_move rfl ?_)
  refine O_y hs (Y_conv Tryz.underlying25 Tryz.underlying5 (c := 2) rfl (by decide) ?_)
  refine O_y hs (Y_idxStr (b := 2) 2 Tryz.underlying9 rfl rfl rfl (by kernel_rfl) ?_)
  refine O_y hs (Y_conv Tryz.underlying5 Tryz.underlying3 (c := 2) rfl (by decide) ?_)
  refine O_y hs (Y_add (c := (2)) rfl rfl (by decide) (by decide) ?_)
  refine O_y hs (Y_assign rfl ?_)
  refine O_nil (T_sub [(2, _)] ⟨rfl, trivial⟩ ?_)
  refine T_ret ?_
  refine Rt_fin (vs := [_]) Tryz.results107 rfl ⟨rfl, trivial⟩ ?_
  try dsimp only [tup]
  exact ⟨_, [], hs.done, rfl, rfl⟩

set_option maxHeartbeats 400000 in
set_option maxRecDepth 10000 in
theorem blen_2 {G : Ghost} :
    FnOk Tryz.prog 85 [.int .u64 2] G [] fun r _ H' => H' = [] ∧ r = .int .i64 2 := by
  refine FnOk.of_T [(0, _)] Tryz.func85 rfl Tryz.ntmps85 (by simp) rfl fun w0 hs => ?_
  refine T_seq (T_region rfl ?_)
  refine O_y hs (Y_assign rfl ?_)
  refine O_nil (T_sub [(0, _)] ⟨rfl, trivial⟩ ?_)
  refine T_seq (T_condF rfl (T_skip ?_))
  refine T_seq (T_region rfl ?_)
  refine O_y hs (Y_move rfl ?_)
  refine O_s (S_call (H1 := []) hs rfl Tryz.func107 rfl (by kernel_rfl) (len64_2) fun v1 G' H' _ hR hG7 hs => ?_)
  obtain ⟨rfl, rfl⟩ := hR
  replace hs : St _ _ [] _ := hs
  refine O_y hs (Y_assign rfl ?_)
  refine O_nil (T_sub [(2, _)] ⟨rfl, trivial⟩ ?_)
  refine T_ret ?_
  refine Rt_fin (vs := [_]) Tryz.results85 rfl ⟨rfl, trivial⟩ ?_
  try dsimp only [tup]
  exact ⟨_, [], hs.done, rfl, rfl⟩

set_option maxHeartbeats 400000 in
set_option maxRecDepth 10000 in
theorem sort_aa {G : Ghost} {v1 : Value} :
    FnOk Tryz.prog 66 [v1] G [.row 5 1 v1 2 [.int .u8 97, .int .u8 97]] fun _ _ H' => H' = [.row 5 1 v1 2 [.int .u8 97, .int .u8 97]] := by
  refine FnOk.of_T [(0, _)] Tryz.func66 rfl Tryz.ntmps66 (by simp) rfl fun w0 hs => ?_
  refine T_seq (T_region rfl ?_)
  refine O_y hs (Y_move rfl ?_)
  refine O_y hs (Y_lenOwn 0 rfl Tryz.underlying22 rfl hs ?_)
  refine O_y hs (Y_assign rfl ?_)
  refine O_nil (T_sub [(0, _), (2, _)] ⟨rfl, rfl, trivial⟩ ?_)
  refine T_region rfl ?_
  refine O_y hs (Y_move rfl ?_)
  refine O_y hs (Y_move rfl ?_)
  refine O_y hs (Y_move rfl ?_)
  refine O_y hs (Y_conv Tryz.underlying3 Tryz.underlying55 (c := 2) rfl (by decide) ?_)
  refine O_s (S_call (H1 := []) hs rfl Tryz.func85 rfl (by kernel_rfl) (blen_2) fun v1 G' H' _ hR hG9 hs => ?_)
  obtain ⟨rfl, rfl⟩ := hR
  replace hs : St _ _ [_] _ := hs
  refine O_s (S_call (H1 := [_]) hs rfl Tryz.func84 rfl (by kernel_rfl) (pdq_aa) fun v2 G' H' _ hR hG10 hs => ?_)
  obtain rfl := hR
  replace hs : St _ _ [_] _ := hs
  refine O_nil (Rt_finN (vs := []) Tryz.results66 rfl trivial ?_)
  try dsimp only [tup]
  exact ⟨_, _, hs, rfl⟩

set_option maxHeartbeats 400000 in
set_option maxRecDepth 10000 in
theorem comp_aa {G : Ghost} {v1 : Value} :
    FnOk Tryz.prog 67 [v1] G [.row 5 1 v1 2 [.int .u8 97, .int .u8 97]] fun r G' H' => H' = [.row 5 1 r 1 [.int .u8 97]] ∧ r.ownBlock = v1.ownBlock := by
  intro wf hwf
  obtain ⟨bz, cz, rfl, hcz⟩ := hwf.rowForm 0 rfl (by decide)
  revert wf
  suffices hh : FnOk _ _ _ _ _ _ from fun w hw => hh w hw
  refine FnOk.of_T [(0, _)] Tryz.func67 rfl Tryz.ntmps67 (by simp) rfl fun w0 hs => ?_
  refine T_seq (T_region rfl ?_)
  refine O_y hs (Y_assign rfl ?_)
  refine O_nil (T_sub [(0, _)] ⟨rfl, trivial⟩ ?_)
  refine T_seq (T_seq (T_region rfl ?_))
  refine O_y hs (Y_move rfl ?_)
  refine O_y hs (Y_len Tryz.underlying22 rfl ?_)
  refine O_y hs (Y_cmpF rfl rfl rfl (by decide) ?_)
  refine O_nil (T_sub [(0, _), (8, _)] ⟨rfl, rfl, trivial⟩ ?_)
  refine T_condF rfl (T_skip ?_)
  refine T_seq (T_seq (T_region rfl ?_))
  refine O_y hs (Y_assign rfl ?_)
  refine O_nil (T_sub [(0, _), (3, _)] ⟨rfl, rfl, trivial⟩ ?_)
  refine T_block (T_loopN 1 (L := [(0, _), (3, _)]) ⟨rfl, rfl, trivial⟩ (U_go ?_))
  refine T_seq (T_seq (T_region rfl ?_))
  refine O_y hs (Y_move rfl ?_)
  refine O_y hs (Y_move rfl ?_)
  refine O_y hs (Y_len Tryz.underlying22 rfl ?_)
  refine O_y hs (Y_cmpT rfl rfl rfl (by decide) ?_)
  refine O_nil (T_sub [(0, _), (3, _), (13, _)] ⟨rfl, rfl, rfl, trivial⟩ ?_)
  refine T_condT rfl (T_skip ?_)
  refine T_seq (T_block (T_seq (T_drawS [0, 1, 2, 3, 4, 5, 6, 7, 8, 9] hs (by kernel_rfl) ?_)))
  replace hs := hs.drew
  refine A_take 0 rfl (by kernel_rfl) rfl hs (Y_move rfl ?_)
  refine A_take 1 rfl (by kernel_rfl) rfl hs (Y_move rfl ?_)
  refine A_take 2 rfl (by kernel_rfl) rfl hs (Y_idxOwn (j := 1) 1 0 rfl Tryz.underlying22 Tryz.sizeOf5 rfl rfl rfl (by decide) (u := .int .u8 97) rfl hs fun p18 hp18 => ?_)
  refine A_take 3 rfl (by kernel_rfl) rfl hs (Y_ldOwn Tryz.isAgg5 rfl hp18 ?_)
  refine A_take 4 rfl (by kernel_rfl) rfl hs (Y_move rfl ?_)
  refine A_take 5 rfl (by kernel_rfl) rfl hs (Y_move rfl ?_)
  refine A_take 6 rfl (by kernel_rfl) rfl hs (Y_sub (c := (0)) rfl rfl (by decide) (by decide) ?_)
  refine A_take 7 rfl (by kernel_rfl) rfl hs (Y_idxOwn (j := 0) 0 0 rfl Tryz.underlying22 Tryz.sizeOf5 rfl rfl rfl (by decide) (u := .int .u8 97) rfl hs fun p23 hp23 => ?_)
  refine A_take 8 rfl (by kernel_rfl) rfl hs (Y_ldOwn Tryz.isAgg5 rfl hp23 ?_)
  refine A_take 9 rfl (by kernel_rfl) rfl hs (Y_cmpT rfl rfl rfl (by decide) ?_)
  refine A_done (by kernel_rfl) (T_sub [(0, _), (3, _), (25, _)] ⟨rfl, rfl, rfl, trivial⟩ ?_)
  refine T_condT rfl (T_seq (T_region rfl ?_))
  refine O_y hs (Y_move rfl ?_)
  refine O_y hs (Y_move rfl ?_)
  refine O_y hs (Y_sliceTail 1 Tryz.underlying22 Tryz.sizeOf5 rfl rfl rfl (by decide) hcz ?_)
  refine O_y hs (Y_assign rfl ?_)
  refine O_nil (T_sub [(0, _), (3, _), (4, _)] ⟨rfl, rfl, rfl, trivial⟩ ?_)
  refine T_seq (T_seq (T_region rfl ?_))
  refine O_y hs (Y_assign rfl ?_)
  refine O_nil (T_sub [(0, _), (3, _), (4, _), (5, _)] ⟨rfl, rfl, rfl, rfl, trivial⟩ ?_)
  refine T_block (T_loopN 1 (L := [(0, _), (3, _), (4, _), (5, _)]) ⟨rfl, rfl, rfl, rfl, trivial⟩ (U_go ?_))
  refine T_seq (T_seq (T_region rfl ?_))
  refine O_y hs (Y_move rfl ?_)
  refine O_y hs (Y_move rfl ?_)
  refine O_y hs (Y_len Tryz.underlying22 rfl ?_)
  refine O_y hs (Y_cmpF rfl rfl rfl (by decide) ?_)
  refine O_nil (T_sub [(0, _), (3, _), (4, _), (5, _), (32, _)] ⟨rfl, rfl, rfl, rfl, rfl, trivial⟩ ?_)
  refine T_condF rfl (T_exit ?_)
  refine T_seq (T_region rfl ?_)
  refine O_y hs (Y_move rfl ?_)
  refine O_y hs (Y_move rfl ?_)
  refine O_y hs (Y_sliceTail 1 Tryz.underlying22 Tryz.sizeOf5 rfl rfl rfl (by decide) hcz ?_)
  refine O_n (S_clear1 (i := 1) (cp := cz - 1) hs Tryz.underlying22 Tryz.zeroValue5 rfl rfl rfl (by decide) fun _ hs => ?_)
  refine O_nil (T_sub [(0, _), (3, _)] ⟨rfl, rfl, trivial⟩ ?_)
  refine T_seq (T_region rfl ?_)
  refine O_y hs (Y_move rfl ?_)
  refine O_y hs (Y_move rfl ?_)
  refine O_y hs (Y_sliceRaw 1 Tryz.underlying22 Tryz.sizeOf5 rfl rfl rfl (by omega) ?_)
  refine O_y hs (Y_assign rfl ?_)
  refine O_nil (T_sub [(2, _)] ⟨rfl, trivial⟩ ?_)
  refine T_ret ?_
  refine Rt_fin (vs := [_]) Tryz.results67 rfl ⟨rfl, trivial⟩ ?_
  try dsimp only [tup]
  have hs := hs.rowTake (m := 1) (by decide)
  exact ⟨_, _, hs, rfl, rfl⟩

set_option maxHeartbeats 400000 in
set_option maxRecDepth 10000 in
theorem litl_ok {G : Ghost} {v : Value} {l : List UInt8} (hb : Bytes G v l) (hl : l.length ≤ 1000000000) :
    FnOk Tryz.prog 71 [v] G [] fun r _ H' => H' = [.row 84 2 r l.length (litC l)] := by
  obtain ⟨A, cap, rfl, _⟩ := id hb
  refine FnOk.of_T [(0, _)] Tryz.func71 rfl Tryz.ntmps71 (by simp) rfl fun w0 hs => ?_
  have hb0 := hb
  refine T_seq (T_region rfl ?_)
  refine O_y hs (Y_assign rfl ?_)
  refine O_nil (T_sub [(0, _)] ⟨rfl, trivial⟩ ?_)
  refine T_seq (T_region rfl ?_)
  refine O_y hs (Y_assign rfl ?_)
  refine O_nil (T_sub [(0, _), (3, _)] ⟨rfl, rfl, trivial⟩ ?_)
  refine T_seq (T_seq (T_region rfl ?_))
  refine O_y hs (Y_move rfl ?_)
  refine O_y hs (Y_len Tryz.underlying22 rfl ?_)
  refine O_y hs (Y_move rfl ?_)
  refine O_nil (T_sub [(3, _), (6, _), (7, _), (8, _)] ⟨rfl, rfl, rfl, rfl, trivial⟩ ?_)
  have hs := hs.nilRow 84 2
  refine T_block (T_loop (fun m E w => ∃ (k : Nat) (v3 : Value) (G' : Ghost), k ≤ l.length ∧ m = l.length - k ∧ E = ⟨[], [(3, v3), (6, (.slice A l.length cap)), (7, .int .i64 ((l.length : Nat) : Int)), (8, .int .i64 (k : Int))]⟩ ∧ St ⟨w0, G, feet []⟩ G' [.row 84 2 v3 k (litC (l.take k))] w) (L := [(3, _), (6, _), (7, _), (8, _)]) ⟨rfl, rfl, rfl, rfl, trivial⟩ (⟨0, _, _, by omega, rfl, rfl, hs⟩) fun m E w hI => ?_)
  obtain ⟨k, v3, G', hk, rfl, rfl, hs⟩ := hI
  have hb := hb0.mono hs.le
  refine T_seq (T_region rfl ?_)
  refine O_y hs (Y_cmpS rfl rfl rfl (fun h9 => ?_) (fun h9 => ?_))
  · -- h9: True
    dsimp only [cmpP] at h9
    refine O_nil (T_sub [(3, _), (6, _), (7, _), (8, _), (9, _)] ⟨rfl, rfl, rfl, rfl, rfl, trivial⟩ ?_)
    refine T_seq (T_condT rfl (T_skip ?_))
    refine T_seq (T_block (T_seq (T_region rfl ?_)))
    refine O_y hs (Y_idxB hb k Tryz.underlying22 Tryz.sizeOf5 rfl rfl rfl (by omega) fun p10 hp10 => ?_)
    refine O_y hs (Y_ldG Tryz.isAgg5 rfl (hp10) ?_)
    refine O_y hs (Y_assign rfl ?_)
    refine O_nil (T_sub [(3, _), (5, _), (6, _), (7, _), (8, _)] ⟨rfl, rfl, rfl, rfl, rfl, trivial⟩ ?_)
    refine T_region rfl ?_
    refine O_y hs (Y_move rfl ?_)
    refine O_y hs (Y_move rfl ?_)
    refine O_y hs (Y_build Tryz.zeroValue84 rfl PL84 rfl (cs := [_, _]) rfl ?_)
    refine O_s (S_lit hs Tryz.underlying79 Tryz.sizeOf84 Tryz.zeroValue84 rfl rfl (by decide) (by decide) rfl (cs := [_, _]) rfl rfl fun v1 _ hs _ => ?_)
    obtain ⟨_, hG15, hl15, hs⟩ := hs.fixRow noM
    replace hb := hb.mono hG15
    refine O_s (S_append hs Tryz.underlying79 TI84 rfl (by decide) rfl rfl (hl15) (two1 rfl rfl) (by omega) (by omega) fun v2 _ hs => ?_)
    refine O_y hs (Y_assign rfl ?_)
    refine O_nil (T_sub [(3, _), (6, _), (7, _), (8, _)] ⟨rfl, rfl, rfl, rfl, trivial⟩ ?_)
    refine T_region rfl ?_
    refine O_y hs (Y_add (c := ((k + 1 : Nat) : Int)) rfl rfl (by omega) (by omega) ?_)
    refine O_y hs (Y_move rfl ?_)
    refine O_nil ⟨_, ?_, [(3, _), (6, _), (7, _), (8, _)], ⟨rfl, rfl, rfl, rfl, trivial⟩, ⟨k + 1, _, _, by omega, rfl, rfl, by rw [List.take_succ_eq_append_getElem (by omega), litC_snoc]; exact hs⟩⟩
    omega
  · -- h9: False
    dsimp only [cmpP] at h9
    refine O_nil (T_sub [(3, _), (6, _), (7, _), (8, _), (9, _)] ⟨rfl, rfl, rfl, rfl, rfl, trivial⟩ ?_)
    refine T_seq (T_condF rfl (T_exit ?_))
    refine T_seq (T_region rfl ?_)
    refine O_y hs (Y_move rfl ?_)
    refine O_y hs (Y_assign rfl ?_)
    refine O_nil (T_sub [(2, _)] ⟨rfl, trivial⟩ ?_)
    refine T_ret ?_
    refine Rt_fin (vs := [_]) Tryz.results71 rfl ⟨rfl, trivial⟩ ?_
    try dsimp only [tup]
    obtain rfl : k = l.length := by omega
    rw [List.take_length] at hs
    exact ⟨_, _, hs, rfl⟩

set_option maxHeartbeats 400000 in
set_option maxRecDepth 10000 in
theorem clone_own {v : Value} {G : Ghost} {bs : List UInt8} (hb : Bytes G v bs) (hl : bs.length ≤ 1000000000) :
    FnOk Tryz.prog 35 [v] G [] fun r _ H' => H' = [.row 5 1 r bs.length (bs.map byteV)] := by
  obtain ⟨A, cap, rfl, hb'⟩ := id hb
  refine FnOk.of_T [(0, _)] Tryz.func35 rfl Tryz.ntmps35 (by simp) rfl fun w0 hs => ?_
  have hb0 := hb
  refine T_seq (T_region rfl ?_)
  refine O_y hs (Y_assign rfl ?_)
  refine O_nil (T_sub [(0, _)] ⟨rfl, trivial⟩ ?_)
  refine T_seq (T_seq (T_region rfl ?_))
  refine O_y hs (Y_move rfl ?_)
  refine O_y hs (Y_nilS Tryz.underlying22 rfl rfl (fun h4 => ?_) (fun h4 => ?_))
  · -- h4: True
    refine O_nil (T_sub [(0, _), (4, _)] ⟨rfl, rfl, trivial⟩ ?_)
    refine T_condT rfl (T_seq (T_region rfl ?_))
    refine O_y hs (Y_assign rfl ?_)
    refine O_nil (T_sub [(2, _)] ⟨rfl, trivial⟩ ?_)
    refine T_ret ?_
    refine Rt_fin (vs := [_]) Tryz.results35 rfl ⟨rfl, trivial⟩ ?_
    try dsimp only [tup]
    have hn : bs = [] := Bytes.nil_of (h4 ▸ hb)
    subst hn
    exact ⟨_, _, hs.nilRow 5 1, rfl⟩
  · -- h4: False
    refine O_nil (T_sub [(0, _), (4, _)] ⟨rfl, rfl, trivial⟩ ?_)
    refine T_condF rfl (T_skip ?_)
    refine T_seq (T_region rfl ?_)
    refine O_s (S_lit hs Tryz.underlying22 Tryz.sizeOf5 Tryz.zeroValue5 rfl rfl (by decide) (by decide) rfl (cs := []) rfl rfl fun v1 _ hs _ => ?_)
    refine O_y hs (Y_move rfl ?_)
    refine O_s (S_append hs Tryz.underlying22 TI5 rfl (by decide) rfl rfl (hb) (byteV_one) (by omega) (by omega) fun v2 _ hs => ?_)
    refine O_y hs (Y_assign rfl ?_)
    refine O_nil (T_sub [(2, _)] ⟨rfl, trivial⟩ ?_)
    refine T_ret ?_
    refine Rt_fin (vs := [_]) Tryz.results35 rfl ⟨rfl, trivial⟩ ?_
    try dsimp only [tup]
    rw [List.nil_append, Nat.zero_add] at hs
    exact ⟨_, _, hs, rfl⟩

set_option maxHeartbeats 400000 in
set_option maxRecDepth 10000 in
theorem hasp_ok {v v2 : Value} {G : Ghost} {a b : List UInt8} (ha : Bytes G v a) (hb : Bytes G v2 b) :
    FnOk Tryz.prog 75 [v, v2] G [] fun r _ H' => H' = [] ∧ r = .bool (b.isPrefixOf a) := by
  obtain ⟨A1, c1, rfl, _⟩ := id ha
  obtain ⟨A2, c2, rfl, _⟩ := id hb
  refine FnOk.of_T [(0, _), (1, _)] Tryz.func75 rfl Tryz.ntmps75 (by simp) rfl fun w0 hs => ?_
  have ha0 := ha
  have hb0 := hb
  refine T_seq (T_region rfl ?_)
  refine O_y hs (Y_assign rfl ?_)
  refine O_nil (T_sub [(0, _), (1, _)] ⟨rfl, rfl, trivial⟩ ?_)
  refine T_seq (T_region rfl ?_)
  refine O_y hs (Y_move rfl ?_)
  refine O_y hs (Y_len Tryz.underlying22 rfl ?_)
  refine O_y hs (Y_move rfl ?_)
  refine O_y hs (Y_len Tryz.underlying22 rfl ?_)
  refine O_y hs (Y_cmpS rfl rfl rfl (fun h9 => ?_) (fun h9 => ?_))
  · -- h9: True
    dsimp only [cmpP] at h9
    refine O_y hs (Y_move rfl ?_)
    refine O_yy 10 hs rfl rfl (Y_move rfl ?_)
    refine O_yy 10 hs rfl rfl (Y_move rfl ?_)
    refine O_yy 10 hs rfl rfl (Y_len Tryz.underlying22 rfl ?_)
    refine O_yy 10 hs rfl rfl (Y_sliceB ha 0 b.length Tryz.underlying22 Tryz.sizeOf5 rfl rfl ⟨_, _, rfl, rfl⟩ (by omega) (by omega) fun s14 hs14 => ?_)
    obtain ⟨A14, c14, rfl, _⟩ := id hs14
    refine O_yy 10 hs rfl rfl (Y_move rfl ?_)
    refine O_yes 10 rfl rfl (S_call (H1 := []) hs rfl Tryz.func74 rfl (by kernel_rfl) (equal_ok hs14 hb) fun v1 G' H' _ hR hG16 hs => ?_)
    obtain ⟨rfl, rfl⟩ := hR
    replace hs : St _ _ [] _ := hs
    replace ha := ha.mono hG16
    replace hb := hb.mono hG16
    replace hs14 := hs14.mono hG16
    cases hq : (decide (List.take (b.length - 0) (List.drop 0 a) = b))
    · -- hq: False
      refine O_y hs (Y_pickT rfl rfl ?_)
      refine O_y hs (Y_assign rfl ?_)
      refine O_nil (T_sub [(4, _)] ⟨rfl, trivial⟩ ?_)
      refine T_ret ?_
      refine Rt_fin (vs := [_]) Tryz.results75 rfl ⟨rfl, trivial⟩ ?_
      try dsimp only [tup]
      exact ⟨_, [], hs.done, rfl, congrArg Value.bool (pre_dec hq)⟩
    · -- hq: True
      refine O_y hs (Y_pickT rfl rfl ?_)
      refine O_y hs (Y_assign rfl ?_)
      refine O_nil (T_sub [(4, _)] ⟨rfl, trivial⟩ ?_)
      refine T_ret ?_
      refine Rt_fin (vs := [_]) Tryz.results75 rfl ⟨rfl, trivial⟩ ?_
      try dsimp only [tup]
      exact ⟨_, [], hs.done, rfl, congrArg Value.bool (pre_dec hq)⟩
  · -- h9: False
    dsimp only [cmpP] at h9
    refine O_y hs (Y_move rfl ?_)
    refine O_no 10 rfl rfl ?_
    refine O_no 10 rfl rfl ?_
    refine O_no 10 rfl rfl ?_
    refine O_no 10 rfl rfl ?_
    refine O_no 10 rfl rfl ?_
    refine O_no 10 rfl rfl ?_
    refine O_y hs (Y_pickF rfl rfl ?_)
    refine O_y hs (Y_assign rfl ?_)
    refine O_nil (T_sub [(4, _)] ⟨rfl, trivial⟩ ?_)
    refine T_ret ?_
    refine Rt_fin (vs := [_]) Tryz.results75 rfl ⟨rfl, trivial⟩ ?_
    try dsimp only [tup]
    exact ⟨_, [], hs.done, rfl, congrArg Value.bool (pre_short (by omega))⟩

theorem of_own {G : Ghost} {v : Value} {l : List UInt8} (hl : l.length ≤ 1000000000) : FnOk Tryz.prog 69 [v] G [.row 5 1 v l.length (l.map byteV)] fun r _ H' => H' = [.row 5 1 v l.length (l.map byteV)] ∧ r = ClsV (ofF l) := FnOk.lend fun _ _ h => of_ok h hl


set_option maxHeartbeats 400000 in
set_option maxRecDepth 10000 in
theorem bsr_97 {v : Value} {G : Ghost} (hb : Bytes G v [97]) :
    FnOk Tryz.prog 72 [v, .int .u8 97] G [] fun r _ H' => H' = [] ∧ r = .tuple #[.int .i64 0, .bool true] := by
  obtain ⟨A, cap, rfl, _⟩ := id hb
  refine FnOk.of_T [(0, _), (1, _)] Tryz.func72 rfl Tryz.ntmps72 (by simp) rfl fun w0 hs => ?_
  have hb0 := hb
  refine T_seq (T_region rfl ?_)
  refine O_y hs (Y_assign rfl ?_)
  refine O_y hs (Y_assign rfl ?_)
  refine O_nil (T_sub [(0, _), (1, _)] ⟨rfl, rfl, trivial⟩ ?_)
  refine T_seq (T_region rfl ?_)
  refine O_y hs (Y_move rfl ?_)
  refine O_y hs (Y_len Tryz.underlying22 rfl ?_)
  refine O_y hs (Y_assign rfl ?_)
  refine O_nil (T_sub [(0, _), (1, _), (6, _)] ⟨rfl, rfl, rfl, trivial⟩ ?_)
  refine T_seq (T_region rfl ?_)
  refine O_y hs (Y_move rfl ?_)
  refine O_y hs (Y_assign rfl ?_)
  refine O_y hs (Y_assign rfl ?_)
  refine O_nil (T_sub [(0, _), (1, _), (6, _), (7, _), (8, _)] ⟨rfl, rfl, rfl, rfl, rfl, trivial⟩ ?_)
  refine T_seq (T_block (T_loopN 2 (L := [(0, _), (1, _), (6, _), (7, _), (8, _)]) ⟨rfl, rfl, rfl, rfl, rfl, trivial⟩ (U_go ?_)))
  refine T_seq (T_seq (T_region rfl ?_))
  refine O_y hs (Y_move rfl ?_)
  refine O_y hs (Y_move rfl ?_)
  refine O_y hs (Y_cmpT rfl rfl rfl (by decide) ?_)
  refine O_nil (T_sub [(0, _), (1, _), (6, _), (7, _), (8, _), (15, _)] ⟨rfl, rfl, rfl, rfl, rfl, rfl, trivial⟩ ?_)
  refine T_condT rfl (T_skip ?_)
  refine T_block (T_seq (T_region rfl ?_))
  refine O_y hs (Y_move rfl ?_)
  refine O_y hs (Y_move rfl ?_)
  refine O_y hs (Y_add (c := (1)) rfl rfl (by decide) (by decide) ?_)
  refine O_y hs (Y_conv Tryz.underlying3 Tryz.underlying55 (c := 1) rfl (by decide) ?_)
  refine O_y hs (Y_shr (c := 0) rfl rfl (by decide) (by decide) ?_)
  refine O_y hs (Y_conv Tryz.underlying55 Tryz.underlying3 (c := 0) rfl (by decide) ?_)
  refine O_y hs (Y_assign rfl ?_)
  refine O_nil (T_sub [(0, _), (1, _), (6, _), (7, _), (8, _), (9, _)] ⟨rfl, rfl, rfl, rfl, rfl, rfl, trivial⟩ ?_)
  refine T_seq (T_region rfl ?_)
  refine O_y hs (Y_move rfl ?_)
  refine O_y hs (Y_move rfl ?_)
  refine O_y hs (Y_idxB hb 0 Tryz.underlying22 Tryz.sizeOf5 rfl rfl rfl (by decide) fun p24 hp24 => ?_)
  refine O_y hs (Y_ldG Tryz.isAgg5 rfl (hp24) ?_)
  refine O_y hs (Y_move rfl ?_)
  refine O_s (S_call (H1 := []) hs rfl Tryz.func89 rfl (by kernel_rfl) (less_ok (x := 97) (y := 97)) fun v1 G' H' _ hR hG27 hs => ?_)
  obtain ⟨rfl, rfl⟩ := hR
  replace hs : St _ _ [] _ := hs
  replace hb := hb.mono hG27
  refine O_nil (T_sub [(0, _), (1, _), (6, _), (7, _), (8, _), (9, _), (27, _)] ⟨rfl, rfl, rfl, rfl, rfl, rfl, rfl, trivial⟩ ?_)
  refine T_condF rfl (T_region rfl ?_)
  refine O_y hs (Y_move rfl ?_)
  refine O_y hs (Y_assign rfl ?_)
  refine O_nil ⟨[(0, _), (1, _), (6, _), (7, _), (8, _)], ⟨rfl, rfl, rfl, rfl, rfl, trivial⟩, U_go ?_⟩
  refine T_seq (T_seq (T_region rfl ?_))
  refine O_y hs (Y_move rfl ?_)
  refine O_y hs (Y_move rfl ?_)
  refine O_y hs (Y_cmpF rfl rfl rfl (by decide) ?_)
  refine O_nil (T_sub [(0, _), (1, _), (6, _), (7, _), (8, _), (15, _)] ⟨rfl, rfl, rfl, rfl, rfl, rfl, trivial⟩ ?_)
  refine T_condF rfl (T_exit ?_)
  refine T_seq (T_region rfl ?_)
  refine O_y hs (Y_move rfl ?_)
  refine O_y hs (Y_move rfl ?_)
  refine O_y hs (Y_move rfl ?_)
  refine O_y hs (Y_cmpT rfl rfl rfl (by decide) ?_)
  refine O_y hs (Y_move rfl ?_)
  refine O_yy 35 hs rfl rfl (Y_move rfl ?_)
  refine O_yy 35 hs rfl rfl (Y_move rfl ?_)
  refine O_yy 35 hs rfl rfl (Y_idxB hb 0 Tryz.underlying22 Tryz.sizeOf5 rfl rfl rfl (by decide) fun p38 hp38 => ?_)
  refine O_yy 35 hs rfl rfl (Y_ldG Tryz.isAgg5 rfl (hp38) ?_)
  refine O_yy 35 hs rfl rfl (Y_move rfl ?_)
  refine O_yy 35 hs rfl rfl (Y_cmpT rfl rfl rfl (by decide) ?_)
  refine O_yy 35 hs rfl rfl (Y_move rfl ?_)
  refine O_no 42 rfl rfl ?_
  refine O_no 42 rfl rfl ?_
  refine O_no 42 rfl rfl ?_
  refine O_no 42 rfl rfl ?_
  refine O_no 42 rfl rfl ?_
  refine O_no 42 rfl rfl ?_
  refine O_noU 48 rfl rfl ?_
  refine O_noU 48 rfl rfl ?_
  refine O_no 42 rfl rfl ?_
  refine O_yy 35 hs rfl rfl (Y_pickT rfl rfl ?_)
  refine O_y hs (Y_pickT rfl rfl ?_)
  refine O_y hs (Y_assign rfl ?_)
  refine O_y hs (Y_assign rfl ?_)
  refine O_nil (T_sub [(4, _), (5, _)] ⟨rfl, rfl, trivial⟩ ?_)
  refine T_ret ?_
  refine Rt_fin (vs := [_, _]) Tryz.results72 rfl ⟨rfl, rfl, trivial⟩ ?_
  try dsimp only [tup]
  exact ⟨_, [], hs.done, rfl, rfl⟩

set_option maxHeartbeats 400000 in
set_option maxRecDepth 10000 in
theorem other_ok {G : Ghost} {v : Value} {bf : List UInt8} {sp vC vM vF vE c0 c1 c2 c3 : Value} {bb mb fr : Nat} {xs : List Value} (hfr : fr < 2) (hx : xs[fr]? = some (.slice (some ⟨mb, 0, none⟩) 2 2)) (hb : Bytes G v bf) (hbl : bf.length ≤ 100000000) :
    FnOk Tryz.prog 41 [.pointer (some ⟨bb, 0, none⟩), .int .i64 (fr : Int), .int .i64 0, v] G [.blk mb 81 [c0, c1, c2, c3], .row 87 1 vM 2 xs, .blk bb 77 [sp, vC, vM, vF, vE]] fun _ _ H' => ∃ r, H' = [.row 84 2 r (bf.length + 1) (litC bf ++ [.bool true, .int .u8 0]), .blk mb 81 [.int .i64 0, r, c2, c3], .row 87 1 vM 2 xs, .blk bb 77 [sp, vC, vM, vF, vE]] := by
  obtain ⟨A, cap, rfl, _⟩ := id hb
  refine FnOk.of_T [(0, _), (1, _), (2, _), (3, _)] Tryz.func41 rfl Tryz.ntmps41 (by simp) rfl fun w0 hs => ?_
  have hb0 := hb
  refine T_drawS [0, 1, 2, 3, 4, 5, 6, 7, 8, 9, 10, 11, 12, 13, 14, 15] hs (by kernel_rfl) ?_
  replace hs := hs.drew
  refine A_take 0 rfl (by kernel_rfl) rfl hs (Y_move rfl ?_)
  refine A_take 1 rfl (by kernel_rfl) rfl hs (Y_nil rfl ?_)
  refine A_take 2 rfl (by kernel_rfl) rfl hs (Y_fieldAddr FO77_1 rfl (m := 1) rfl ?_)
  refine A_take 3 rfl (by kernel_rfl) rfl hs (Y_fieldAddr FO43_1 rfl (m := 2) rfl ?_)
  refine A_take 4 rfl (by kernel_rfl) rfl hs (Y_ld 2 Tryz.isAgg39 rfl rfl rfl ?_)
  refine A_take 5 rfl (by kernel_rfl) rfl hs (Y_move rfl ?_)
  refine A_take 6 rfl (by kernel_rfl) rfl hs (Y_idxOwn (j := fr) fr 1 rfl Tryz.underlying39 Tryz.sizeOf87 rfl rfl rfl (hfr) (u := (.slice (some ⟨mb, 0, none⟩) 2 2)) (hx) hs fun p14 hp14 => ?_)
  refine A_take 7 rfl (by kernel_rfl) rfl hs (Y_ldOwn Tryz.isAgg87 rfl hp14 ?_)
  refine A_take 8 rfl (by kernel_rfl) rfl hs (Y_move rfl ?_)
  refine A_take 9 rfl (by kernel_rfl) rfl hs (Y_move rfl ?_)
  refine A_take 11 rfl (by kernel_rfl) rfl hs (Y_build Tryz.zeroValue84 rfl PL84 rfl (cs := [_, _]) rfl ?_)
  refine A_two 10 12 rfl rfl (by kernel_rfl) rfl rfl ?_ ?_
  · -- operation 10 comes up
    have hle := hs.le
    refine S_call (H1 := []) hs rfl Tryz.func71 rfl (by kernel_rfl) (litl_ok hb (by omega)) fun v1 G' H' _ hR hG18 hs => ?_
    obtain rfl := hR
    replace hs : St _ _ [_, _, _, _] _ := hs
    replace hb := hb.mono hG18
    have hsW := hs.drop
    refine A_moreS hsW hle hG18 (List.Sublist.refl _) ?_
    have hle := hs.le
    refine A_only 12 rfl (by kernel_rfl) rfl (S_lit hs Tryz.underlying79 Tryz.sizeOf84 Tryz.zeroValue84 rfl rfl (by decide) (by decide) rfl (cs := [_, _]) rfl rfl fun v2 _ hs _ => ?_)
    obtain ⟨_, hG20, hl20, hs⟩ := hs.fixRow (noMin hs (by simp))
    replace hb := hb.mono hG20
    have hsW := hs.drop
    refine A_moreS hsW hle hG20 (List.Sublist.refl _) ?_
    have hle := hs.le
    refine A_only 13 rfl (by kernel_rfl) rfl (S_append hs Tryz.underlying79 TI84 rfl (by decide) rfl rfl (hl20) (two1 rfl rfl) (by omega) (by omega) fun v3 _ hs => ?_)
    have hsW := hs.drop
    refine A_moreS hsW hle (Ghost.le.refl _) (List.Sublist.refl _) ?_
    obtain ⟨Ar, cr, rfl⟩ := hs.rowSl 0 rfl
    refine A_take 14 rfl (by kernel_rfl) rfl hsW (Y_build Tryz.zeroValue81 rfl PL81 rfl (cs := [_, _]) rfl ?_)
    refine A_take 15 rfl (by kernel_rfl) rfl hsW (Y_idxBlk 0 Tryz.underlying87 Tryz.sizeOf81 rfl rfl rfl (by decide) (m := 0) rfl ?_)
    have hs := hs.front 1 rfl (H' := [_, _, _, _]) rfl
    refine A_tailN 16 rfl (by kernel_rfl) (by kernel_rfl) rfl (S_stA hs Tryz.sizeOf81 rfl rfl (vs := [_, _]) rfl (rfl) (by simp) (cs' := [_, _, _, _]) rfl fun _ hs => ?_)
    have hs := hs.front 1 rfl (H' := [_, _, _, _]) rfl
    refine A_done (by kernel_rfl) (Rt_finN (vs := []) Tryz.results41 rfl trivial ?_)
    try dsimp only [tup]
    exact ⟨_, _, hs, _, rfl⟩
  · -- operation 12 comes up
    have hle := hs.le
    refine S_lit hs Tryz.underlying79 Tryz.sizeOf84 Tryz.zeroValue84 rfl rfl (by decide) (by decide) rfl (cs := [_, _]) rfl rfl fun v4 _ hs _ => ?_
    obtain ⟨_, hG20, hl20, hs⟩ := hs.fixRow (noMin hs (by simp))
    replace hb := hb.mono hG20
    refine A_moreS hs hle hG20 (List.Sublist.refl _) ?_
    have hle := hs.le
    refine A_only 10 rfl (by kernel_rfl) rfl (S_call (H1 := []) hs rfl Tryz.func71 rfl (by kernel_rfl) (litl_ok hb (by omega)) fun v5 G' H' _ hR hG18 hs => ?_)
    obtain rfl := hR
    replace hs : St _ _ [_, _, _, _] _ := hs
    replace hb := hb.mono hG18
    replace hl20 := hl20.mono hG18
    have hsW := hs.drop
    refine A_moreS hsW hle hG18 (List.Sublist.refl _) ?_
    have hle := hs.le
    refine A_only 13 rfl (by kernel_rfl) rfl (S_append hs Tryz.underlying79 TI84 rfl (by decide) rfl rfl (hl20) (two1 rfl rfl) (by omega) (by omega) fun v6 _ hs => ?_)
    have hsW := hs.drop
    refine A_moreS hsW hle (Ghost.le.refl _) (List.Sublist.refl _) ?_
    obtain ⟨Ar, cr, rfl⟩ := hs.rowSl 0 rfl
    refine A_take 14 rfl (by kernel_rfl) rfl hsW (Y_build Tryz.zeroValue81 rfl PL81 rfl (cs := [_, _]) rfl ?_)
    refine A_take 15 rfl (by kernel_rfl) rfl hsW (Y_idxBlk 0 Tryz.underlying87 Tryz.sizeOf81 rfl rfl rfl (by decide) (m := 0) rfl ?_)
    have hs := hs.front 1 rfl (H' := [_, _, _, _]) rfl
    refine A_tailN 16 rfl (by kernel_rfl) (by kernel_rfl) rfl (S_stA hs Tryz.sizeOf81 rfl rfl (vs := [_, _]) rfl (rfl) (by simp) (cs' := [_, _, _, _]) rfl fun _ hs => ?_)
    have hs := hs.front 1 rfl (H' := [_, _, _, _]) rfl
    refine A_done (by kernel_rfl) (Rt_finN (vs := []) Tryz.results41 rfl trivial ?_)
    try dsimp only [tup]
    exact ⟨_, _, hs, _, rfl⟩

set_option maxHeartbeats 400000 in
set_option maxRecDepth 10000 in
theorem on_ok {G : Ghost} {v : Value} {l : List UInt8} {to : Nat} {sp vC vM vF vE c0 c1 c2 c3 : Value} {bb mb fr : Nat} {xs : List Value} (hfr : fr < 2) (hx : xs[fr]? = some (.slice (some ⟨mb, 0, none⟩) 2 2)) (hsp : Bytes G sp [97]) (hb : Bytes G v l) (hbl : l.length ≤ 100000000) :
    FnOk Tryz.prog 42 [.pointer (some ⟨bb, 0, none⟩), .int .i64 (fr : Int), .int .u8 97, .int .i64 (to : Int), v] G [.blk mb 81 [c0, c1, c2, c3], .row 87 1 vM 2 xs, .blk bb 77 [sp, vC, vM, vF, vE]] fun _ _ H' => ∃ r, H' = [.row 84 2 r l.length (litC l), .blk mb 81 [c0, c1, .int .i64 (to : Int), r], .row 87 1 vM 2 xs, .blk bb 77 [sp, vC, vM, vF, vE]] := by
  obtain ⟨A, cap, rfl, _⟩ := id hb
  refine FnOk.of_T [(0, _), (1, _), (2, _), (3, _), (4, _)] Tryz.func42 rfl Tryz.ntmps42 (by simp) rfl fun w0 hs => ?_
  have hb0 := hb
  have hsp0 := hsp
  refine T_seq (T_region rfl ?_)
  refine O_y hs (Y_move rfl ?_)
  refine O_y hs (Y_nil rfl ?_)
  refine O_y hs (Y_fieldAddr FO77_0 rfl (m := 0) rfl ?_)
  refine O_y hs (Y_ld 2 Tryz.isAgg22 rfl rfl rfl ?_)
  refine O_y hs (Y_move rfl ?_)
  refine O_s (S_call (H1 := []) hs rfl Tryz.func72 rfl (by kernel_rfl) (bsr_97 hsp) fun v1 G' H' _ hR hG18 hs => ?_)
  obtain ⟨rfl, rfl⟩ := hR
  replace hs : St _ _ [_, _, _] _ := hs
  replace hb := hb.mono hG18
  replace hsp := hsp.mono hG18
  refine O_y hs (Y_move rfl ?_)
  refine O_y hs (Y_extract rfl rfl ?_)
  refine O_y hs (Y_extract rfl rfl ?_)
  refine O_y hs (Y_assign rfl ?_)
  refine O_y hs (Y_assign rfl ?_)
  refine O_nil (T_sub [(0, _), (1, _), (3, _), (4, _), (10, _)] ⟨rfl, rfl, rfl, rfl, rfl, trivial⟩ ?_)
  refine T_drawS [0, 1, 2, 3, 4, 5, 6, 7, 8, 9, 10, 11, 12, 13, 14] hs (by kernel_rfl) ?_
  replace hs := hs.drew
  refine A_take 0 rfl (by kernel_rfl) rfl hs (Y_move rfl ?_)
  refine A_take 1 rfl (by kernel_rfl) rfl hs (Y_nil rfl ?_)
  refine A_take 2 rfl (by kernel_rfl) rfl hs (Y_fieldAddr FO77_1 rfl (m := 1) rfl ?_)
  refine A_take 3 rfl (by kernel_rfl) rfl hs (Y_fieldAddr FO43_1 rfl (m := 2) rfl ?_)
  refine A_take 4 rfl (by kernel_rfl) rfl hs (Y_ld 2 Tryz.isAgg39 rfl rfl rfl ?_)
  refine A_take 5 rfl (by kernel_rfl) rfl hs (Y_move rfl ?_)
  refine A_take 6 rfl (by kernel_rfl) rfl hs (Y_idxOwn (j := fr) fr 1 rfl Tryz.underlying39 Tryz.sizeOf87 rfl rfl rfl (hfr) (u := (.slice (some ⟨mb, 0, none⟩) 2 2)) (hx) hs fun p27 hp27 => ?_)
  refine A_take 7 rfl (by kernel_rfl) rfl hs (Y_ldOwn Tryz.isAgg87 rfl hp27 ?_)
  refine A_take 8 rfl (by kernel_rfl) rfl hs (Y_move rfl ?_)
  refine A_take 9 rfl (by kernel_rfl) rfl hs (Y_add (c := (1)) rfl rfl (by decide) (by decide) ?_)
  refine A_take 10 rfl (by kernel_rfl) rfl hs (Y_move rfl ?_)
  refine A_take 11 rfl (by kernel_rfl) rfl hs (Y_move rfl ?_)
  have hle := hs.le
  refine A_only 12 rfl (by kernel_rfl) rfl (S_call (H1 := []) hs rfl Tryz.func71 rfl (by kernel_rfl) (litl_ok hb (by omega)) fun v2 G' H' _ hR hG33 hs => ?_)
  obtain rfl := hR
  replace hs : St _ _ [_, _, _, _] _ := hs
  replace hb := hb.mono hG33
  replace hsp := hsp.mono hG33
  refine A_moreS hs hle hG33 (List.sublist_cons_self _ _) ?_
  obtain ⟨Ar, cr, rfl⟩ := hs.rowSl 0 rfl
  refine A_take 13 rfl (by kernel_rfl) rfl hs (Y_build Tryz.zeroValue81 rfl PL81 rfl (cs := [_, _]) rfl ?_)
  refine A_take 14 rfl (by kernel_rfl) rfl hs (Y_idxBlk 1 Tryz.underlying87 Tryz.sizeOf81 rfl rfl rfl (by decide) (m := 2) rfl ?_)
  have hs := hs.front 1 rfl (H' := [_, _, _, _]) rfl
  refine A_tailN 15 rfl (by kernel_rfl) (by kernel_rfl) rfl (S_stA hs Tryz.sizeOf81 rfl rfl (vs := [_, _]) rfl (rfl) (by simp) (cs' := [_, _, _, _]) rfl fun _ hs => ?_)
  have hs := hs.front 1 rfl (H' := [_, _, _, _]) rfl
  refine A_done (by kernel_rfl) (Rt_finN (vs := []) Tryz.results42 rfl trivial ?_)
  try dsimp only [tup]
  exact ⟨_, _, hs, _, rfl⟩

set_option maxHeartbeats 400000 in
set_option maxRecDepth 10000 in
theorem newb_aa {G : Ghost} {v1 : Value} :
    FnOk Tryz.prog 40 [.int .i64 2, v1] G [.row 5 1 v1 2 [.int .u8 97, .int .u8 97]] fun r _ H' => ∃ bb m0 m1 sp vC vM vF vE, r = .pointer (some ⟨bb, 0, none⟩) ∧ H' = [.blk m1 81 [.int .i64 (-1), .slice none 0 0, .int .i64 (-1), .slice none 0 0], .blk m0 81 [.int .i64 (-1), .slice none 0 0, .int .i64 (-1), .slice none 0 0], .row 22 1 vE 2 [.slice none 0 0, .slice none 0 0], .row 4 1 vF 2 [.bool true, .bool true], .row 87 1 vM 2 [.slice (some ⟨m0, 0, none⟩) 2 2, .slice (some ⟨m1, 0, none⟩) 2 2], .row 27 4 vC 2 (List.map u64V [18446744073709551615, 18446744065119617023, 18446744073709551615, 18446744073709551615] ++ List.map u64V [0, 8589934592, 0, 0]), .row 5 1 sp 1 [.int .u8 97], .blk bb 77 [sp, vC, vM, vF, vE]] := by
  refine FnOk.of_T [(0, _), (1, _)] Tryz.func40 rfl Tryz.ntmps40 (by simp) rfl fun w0 hs => ?_
  refine T_seq (T_region rfl ?_)
  refine O_y hs (Y_assign rfl ?_)
  refine O_nil (T_sub [(0, _), (1, _)] ⟨rfl, rfl, trivial⟩ ?_)
  refine T_seq (T_region rfl ?_)
  refine O_y hs (Y_move rfl ?_)
  refine O_s (S_call (H1 := [_]) hs rfl Tryz.func66 rfl (by kernel_rfl) (sort_aa) fun v1 G' H' _ hR hG11 hs => ?_)
  obtain rfl := hR
  replace hs : St _ _ [_] _ := hs
  refine O_nil (T_sub [(0, _), (1, _)] ⟨rfl, rfl, trivial⟩ ?_)
  refine T_seq (T_region rfl ?_)
  refine O_y hs (Y_move rfl ?_)
  refine O_s (S_call (H1 := [_]) hs rfl Tryz.func67 rfl (by kernel_rfl) (comp_aa) fun v2 G' H' _ hR hG13 hs => ?_)
  obtain ⟨rfl, hob⟩ := hR
  replace hs : St _ _ [_] _ := hs
  obtain ⟨As, cs, rfl⟩ := hs.rowSl 0 rfl
  refine O_y hs (Y_build Tryz.zeroValue77 rfl PL77 rfl (cs := [_, _, _, _, _]) rfl ?_)
  refine O_s (S_box hs rfl (cs := [_, _, _, _, _]) rfl fun b15 _ hs => ?_)
  refine O_y hs (Y_assign rfl ?_)
  refine O_nil (T_sub [(0, _), (5, _)] ⟨rfl, rfl, trivial⟩ ?_)
  have hs := hs.nilRow 27 4
  have hs := hs.front 2 rfl (H' := [_, _, _]) rfl
  refine T_seq (T_drawS [1, 2, 3, 4, 5, 6, 7, 8, 9, 10, 11, 12] hs (by kernel_rfl) ?_)
  replace hs := hs.drew
  refine A_pure 0 rfl (by kernel_rfl) rfl (Y_move rfl ?_)
  refine A_take 1 rfl (by kernel_rfl) rfl hs (Y_move rfl ?_)
  refine A_take 2 rfl (by kernel_rfl) rfl hs (Y_nil rfl ?_)
  refine A_take 3 rfl (by kernel_rfl) rfl hs (Y_fieldAddr FO77_1 rfl (m := 1) rfl ?_)
  refine A_take 4 rfl (by kernel_rfl) rfl hs (Y_fieldAddr FO43_0 rfl (m := 1) rfl ?_)
  refine A_take 5 rfl (by kernel_rfl) rfl hs (Y_ld 2 Tryz.isAgg38 rfl rfl rfl ?_)
  refine A_take 6 rfl (by kernel_rfl) rfl hs (Y_move rfl ?_)
  refine A_take 7 rfl (by kernel_rfl) rfl hs (Y_nil rfl ?_)
  refine A_take 8 rfl (by kernel_rfl) rfl hs (Y_fieldAddr FO77_0 rfl (m := 0) rfl ?_)
  refine A_take 9 rfl (by kernel_rfl) rfl hs (Y_ld 2 Tryz.isAgg22 rfl rfl rfl ?_)
  have hle := hs.le
  refine A_only 10 rfl (by kernel_rfl) rfl (S_call (H1 := [_]) hs rfl Tryz.func69 rfl (by kernel_rfl) (of_own (l := [97]) (by decide)) fun v3 G' H' _ hR hG26 hs => ?_)
  obtain ⟨rfl, rfl⟩ := hR
  replace hs : St _ _ [_, _, _] _ := hs
  rw [show ofF [97] = [0, 8589934592, 0, 0] by decide]
  refine A_moreS hs hle hG26 (List.Sublist.refl _) ?_
  have hle := hs.le
  refine A_only 11 rfl (by kernel_rfl) rfl (S_call (H1 := []) hs rfl Tryz.func68 rfl (by kernel_rfl) (not_ok (c := [0, 8589934592, 0, 0]) rfl) fun v4 G' H' _ hR hG27 hs => ?_)
  obtain ⟨rfl, rfl⟩ := hR
  replace hs : St _ _ [_, _, _] _ := hs
  rw [show notF [0, 8589934592, 0, 0] = [18446744073709551615, 18446744065119617023, 18446744073709551615, 18446744073709551615] by decide]
  refine A_moreS hs hle hG27 (List.Sublist.refl _) ?_
  have hle := hs.le
  refine A_only 12 rfl (by kernel_rfl) rfl (S_lit hs Tryz.underlying38 Tryz.sizeOf27 Tryz.zeroValue27 rfl rfl (by decide) (by decide) rfl (cs := [_, _, _, _]) rfl rfl fun v5 _ hs _ => ?_)
  obtain ⟨_, hG28, hl28, hs⟩ := hs.fixRow (noMrow 0 hs rfl hob)
  refine A_moreS hs hle hG28 (List.Sublist.refl _) ?_
  have hs := hs.front 1 rfl (H' := [_, _, _]) rfl
  refine A_tail 13 rfl (by kernel_rfl) (by kernel_rfl) rfl (S_append hs Tryz.underlying38 TI27 rfl (by decide) rfl rfl (hl28) (four1 rfl rfl rfl rfl) (by omega) (by omega) fun v6 _ hs => ?_)
  refine A_tail 14 rfl (by kernel_rfl) (by kernel_rfl) rfl (S_y hs rfl (Y_nil rfl ?_))
  refine A_tail 15 rfl (by kernel_rfl) (by kernel_rfl) rfl (S_y hs rfl (Y_fieldAddr FO77_1 rfl (m := 1) rfl ?_))
  refine A_tail 16 rfl (by kernel_rfl) (by kernel_rfl) rfl (S_y hs rfl (Y_fieldAddr FO43_0 rfl (m := 1) rfl ?_))
  have hs := hs.front 2 rfl (H' := [_, _, _]) rfl
  refine A_tailN 17 rfl (by kernel_rfl) (by kernel_rfl) rfl (S_st hs Tryz.sizeOf38 rfl rfl (hs.rowOne 1 rfl) (by simp) (cs' := [_, _, _, _, _]) rfl fun _ hs => ?_)
  refine A_done (by kernel_rfl) (T_sub [(0, _), (5, _)] ⟨rfl, rfl, trivial⟩ ?_)
  refine T_seq (T_seq (T_region rfl ?_))
  refine O_y hs (Y_move rfl ?_)
  refine O_y hs (Y_nil rfl ?_)
  refine O_y hs (Y_fieldAddr FO77_0 rfl (m := 0) rfl ?_)
  refine O_y hs (Y_ld 0 Tryz.isAgg22 rfl rfl rfl ?_)
  refine O_y hs (Y_len Tryz.underlying22 rfl ?_)
  refine O_y hs (Y_move rfl ?_)
  refine O_nil (T_sub [(0, _), (5, _), (36, _), (37, _), (38, _)] ⟨rfl, rfl, rfl, rfl, rfl, trivial⟩ ?_)
  refine T_block (T_loopN 2 (L := [(0, _), (5, _), (36, _), (37, _), (38, _)]) ⟨rfl, rfl, rfl, rfl, rfl, trivial⟩ (U_go ?_))
  refine T_seq (T_region rfl ?_)
  refine O_y hs (Y_cmpT rfl rfl rfl (by decide) ?_)
  refine O_nil (T_sub [(0, _), (5, _), (36, _), (37, _), (38, _), (39, _)] ⟨rfl, rfl, rfl, rfl, rfl, rfl, trivial⟩ ?_)
  refine T_seq (T_condT rfl (T_skip ?_))
  refine T_seq (T_block (T_seq (T_region rfl ?_)))
  refine O_y hs (Y_idxOwn (j := 0) 0 2 rfl Tryz.underlying22 Tryz.sizeOf5 rfl rfl rfl (by decide) (u := .int .u8 97) rfl hs fun p40 hp40 => ?_)
  refine O_y hs (Y_ldOwn Tryz.isAgg5 rfl hp40 ?_)
  refine O_y hs (Y_assign rfl ?_)
  refine O_nil (T_sub [(0, _), (5, _), (7, _), (36, _), (37, _), (38, _)] ⟨rfl, rfl, rfl, rfl, rfl, rfl, trivial⟩ ?_)
  refine T_drawS [1, 2, 3, 4, 5, 6, 7, 8, 9] hs (by kernel_rfl) ?_
  replace hs := hs.drew
  refine A_pure 0 rfl (by kernel_rfl) rfl (Y_move rfl ?_)
  refine A_take 1 rfl (by kernel_rfl) rfl hs (Y_move rfl ?_)
  refine A_take 2 rfl (by kernel_rfl) rfl hs (Y_nil rfl ?_)
  refine A_take 3 rfl (by kernel_rfl) rfl hs (Y_fieldAddr FO77_1 rfl (m := 1) rfl ?_)
  refine A_take 4 rfl (by kernel_rfl) rfl hs (Y_fieldAddr FO43_0 rfl (m := 1) rfl ?_)
  refine A_take 5 rfl (by kernel_rfl) rfl hs (Y_ld 0 Tryz.isAgg38 rfl rfl rfl ?_)
  refine A_take 6 rfl (by kernel_rfl) rfl hs (Y_move rfl ?_)
  refine A_take 7 rfl (by kernel_rfl) rfl hs (Y_move rfl ?_)
  have hle := hs.le
  refine A_only 8 rfl (by kernel_rfl) rfl (S_call (H1 := []) hs rfl Tryz.func70 rfl (by kernel_rfl) (range_ok (lo := 97) (hi := 97)) fun v7 G' H' _ hR hG50 hs => ?_)
  obtain ⟨rfl, rfl⟩ := hR
  replace hs : St _ _ [_, _, _] _ := hs
  rw [show ofF (bytesFrom (97 : UInt8).toNat ((97 : UInt8).toNat + 1 - (97 : UInt8).toNat)) = [0, 8589934592, 0, 0] by decide]
  refine A_moreS hs hle hG50 (List.Sublist.refl _) ?_
  have hle := hs.le
  refine A_only 9 rfl (by kernel_rfl) rfl (S_lit hs Tryz.underlying38 Tryz.sizeOf27 Tryz.zeroValue27 rfl rfl (by decide) (by decide) rfl (cs := [_, _, _, _]) rfl rfl fun v8 _ hs _ => ?_)
  obtain ⟨_, hG51, hl51, hs⟩ := hs.fixRow (noMrow 2 hs rfl hob)
  refine A_moreS hs hle hG51 (List.Sublist.refl _) ?_
  have hs := hs.front 1 rfl (H' := [_, _, _]) rfl
  refine A_tail 10 rfl (by kernel_rfl) (by kernel_rfl) rfl (S_append hs Tryz.underlying38 TI27 rfl (by decide) rfl rfl (hl51) (four1 rfl rfl rfl rfl) (by omega) (by omega) fun v9 _ hs => ?_)
  refine A_tail 11 rfl (by kernel_rfl) (by kernel_rfl) rfl (S_y hs rfl (Y_nil rfl ?_))
  refine A_tail 12 rfl (by kernel_rfl) (by kernel_rfl) rfl (S_y hs rfl (Y_fieldAddr FO77_1 rfl (m := 1) rfl ?_))
  refine A_tail 13 rfl (by kernel_rfl) (by kernel_rfl) rfl (S_y hs rfl (Y_fieldAddr FO43_0 rfl (m := 1) rfl ?_))
  have hs := hs.front 1 rfl (H' := [_, _, _]) rfl
  refine A_tailN 14 rfl (by kernel_rfl) (by kernel_rfl) rfl (S_st hs Tryz.sizeOf38 rfl rfl (hs.rowOne 1 rfl) (by simp) (cs' := [_, _, _, _, _]) rfl fun _ hs => ?_)
  refine A_done (by kernel_rfl) (T_sub [(0, _), (5, _), (36, _), (37, _), (38, _)] ⟨rfl, rfl, rfl, rfl, rfl, trivial⟩ ?_)
  refine T_region rfl ?_
  refine O_y hs (Y_add (c := (1)) rfl rfl (by decide) (by decide) ?_)
  refine O_y hs (Y_move rfl ?_)
  refine O_nil ⟨[(0, _), (5, _), (36, _), (37, _), (38, _)], ⟨rfl, rfl, rfl, rfl, rfl, trivial⟩, U_go ?_⟩
  refine T_seq (T_region rfl ?_)
  refine O_y hs (Y_cmpF rfl rfl rfl (by decide) ?_)
  refine O_nil (T_sub [(0, _), (5, _), (36, _), (37, _), (38, _), (39, _)] ⟨rfl, rfl, rfl, rfl, rfl, rfl, trivial⟩ ?_)
  refine T_seq (T_condF rfl (T_exit ?_))
  refine T_seq (T_seq (T_region rfl ?_))
  refine O_y hs (Y_move rfl ?_)
  refine O_y hs (Y_move rfl ?_)
  refine O_nil (T_sub [(5, _), (57, _), (58, _)] ⟨rfl, rfl, rfl, trivial⟩ ?_)
  refine T_block (T_loopN 3 (L := [(5, _), (57, _), (58, _)]) ⟨rfl, rfl, rfl, trivial⟩ (U_go ?_))
  refine T_seq (T_region rfl ?_)
  refine O_y hs (Y_cmpT rfl rfl rfl (by decide) ?_)
  refine O_nil (T_sub [(5, _), (57, _), (58, _), (59, _)] ⟨rfl, rfl, rfl, rfl, trivial⟩ ?_)
  refine T_seq (T_condT rfl (T_skip ?_))
  refine T_seq (T_block (T_seq (T_region rfl ?_)))
  refine O_y hs (Y_move rfl ?_)
  refine O_y hs (Y_nil rfl ?_)
  refine O_y hs (Y_fieldAddr FO77_1 rfl (m := 1) rfl ?_)
  refine O_y hs (Y_fieldAddr FO43_0 rfl (m := 1) rfl ?_)
  refine O_y hs (Y_ld 0 Tryz.isAgg38 rfl rfl rfl ?_)
  refine O_y hs (Y_lenOwn 1 rfl Tryz.underlying38 rfl hs ?_)
  refine O_s (S_makeB (n := 2) hs Tryz.underlying87 TI81 rfl rfl (by decide) (by decide) (cs := [.int .i64 0, .slice none 0 0, .int .i64 0, .slice none 0 0]) (by kernel_rfl) fun m0 _ hs => ?_)
  refine O_y hs (Y_assign rfl ?_)
  refine O_nil (T_sub [(5, _), (8, _), (57, _), (58, _)] ⟨rfl, rfl, rfl, rfl, trivial⟩ ?_)
  refine T_seq (T_seq (T_region rfl ?_))
  refine O_y hs (Y_move rfl ?_)
  refine O_y hs (Y_len Tryz.underlying87 rfl ?_)
  refine O_y hs (Y_move rfl ?_)
  refine O_nil (T_sub [(5, _), (8, _), (57, _), (58, _), (68, _), (69, _)] ⟨rfl, rfl, rfl, rfl, rfl, rfl, trivial⟩ ?_)
  refine T_block (T_loopN 3 (L := [(5, _), (8, _), (57, _), (58, _), (68, _), (69, _)]) ⟨rfl, rfl, rfl, rfl, rfl, rfl, trivial⟩ (U_go ?_))
  refine T_seq (T_region rfl ?_)
  refine O_y hs (Y_cmpT rfl rfl rfl (by decide) ?_)
  refine O_nil (T_sub [(5, _), (8, _), (57, _), (58, _), (68, _), (69, _), (70, _)] ⟨rfl, rfl, rfl, rfl, rfl, rfl, rfl, trivial⟩ ?_)
  refine T_seq (T_condT rfl (T_skip ?_))
  refine T_seq (T_block (T_seq (T_region rfl ?_)))
  refine O_y hs (Y_move rfl ?_)
  refine O_y hs (Y_assign rfl ?_)
  refine O_nil (T_sub [(5, _), (8, _), (9, _), (57, _), (58, _), (68, _), (69, _)] ⟨rfl, rfl, rfl, rfl, rfl, rfl, rfl, trivial⟩ ?_)
  refine T_region rfl ?_
  refine O_y hs (Y_move rfl ?_)
  refine O_y hs (Y_move rfl ?_)
  refine O_y hs (Y_idxBlk 0 Tryz.underlying87 Tryz.sizeOf81 rfl rfl rfl (by decide) (m := 0) rfl ?_)
  refine O_y hs (Y_fieldAddr FO81_0 rfl (m := 0) rfl ?_)
  refine O_n (S_st hs Tryz.sizeOf3 rfl rfl rfl (by simp) (cs' := [_, _, _, _]) rfl fun _ hs => ?_)
  refine O_nil (T_sub [(5, _), (8, _), (57, _), (58, _), (68, _), (69, _)] ⟨rfl, rfl, rfl, rfl, rfl, rfl, trivial⟩ ?_)
  refine T_region rfl ?_
  refine O_y hs (Y_add (c := (1)) rfl rfl (by decide) (by decide) ?_)
  refine O_y hs (Y_move rfl ?_)
  refine O_nil ⟨[(5, _), (8, _), (57, _), (58, _), (68, _), (69, _)], ⟨rfl, rfl, rfl, rfl, rfl, rfl, trivial⟩, U_go ?_⟩
  refine T_seq (T_region rfl ?_)
  refine O_y hs (Y_cmpT rfl rfl rfl (by decide) ?_)
  refine O_nil (T_sub [(5, _), (8, _), (57, _), (58, _), (68, _), (69, _), (70, _)] ⟨rfl, rfl, rfl, rfl, rfl, rfl, rfl, trivial⟩ ?_)
  refine T_seq (T_condT rfl (T_skip ?_))
  refine T_seq (T_block (T_seq (T_region rfl ?_)))
  refine O_y hs (Y_move rfl ?_)
  refine O_y hs (Y_assign rfl ?_)
  refine O_nil (T_sub [(5, _), (8, _), (9, _), (57, _), (58, _), (68, _), (69, _)] ⟨rfl, rfl, rfl, rfl, rfl, rfl, rfl, trivial⟩ ?_)
  refine T_region rfl ?_
  refine O_y hs (Y_move rfl ?_)
  refine O_y hs (Y_move rfl ?_)
  refine O_y hs (Y_idxBlk 1 Tryz.underlying87 Tryz.sizeOf81 rfl rfl rfl (by decide) (m := 2) rfl ?_)
  refine O_y hs (Y_fieldAddr FO81_0 rfl (m := 2) rfl ?_)
  refine O_n (S_st hs Tryz.sizeOf3 rfl rfl rfl (by simp) (cs' := [_, _, _, _]) rfl fun _ hs => ?_)
  refine O_nil (T_sub [(5, _), (8, _), (57, _), (58, _), (68, _), (69, _)] ⟨rfl, rfl, rfl, rfl, rfl, rfl, trivial⟩ ?_)
  refine T_region rfl ?_
  refine O_y hs (Y_add (c := (2)) rfl rfl (by decide) (by decide) ?_)
  refine O_y hs (Y_move rfl ?_)
  refine O_nil ⟨[(5, _), (8, _), (57, _), (58, _), (68, _), (69, _)], ⟨rfl, rfl, rfl, rfl, rfl, rfl, trivial⟩, U_go ?_⟩
  refine T_seq (T_region rfl ?_)
  refine O_y hs (Y_cmpF rfl rfl rfl (by decide) ?_)
  refine O_nil (T_sub [(5, _), (8, _), (57, _), (58, _), (68, _), (69, _), (70, _)] ⟨rfl, rfl, rfl, rfl, rfl, rfl, rfl, trivial⟩ ?_)
  refine T_seq (T_condF rfl (T_exit ?_))
  have hs := hs.nilRow 87 1
  refine T_seq (T_region rfl ?_)
  refine O_y hs (Y_move rfl ?_)
  refine O_y hs (Y_move rfl ?_)
  refine O_y hs (Y_nil rfl ?_)
  refine O_y hs (Y_fieldAddr FO77_1 rfl (m := 1) rfl ?_)
  refine O_y hs (Y_fieldAddr FO43_1 rfl (m := 2) rfl ?_)
  refine O_y hs (Y_ld 2 Tryz.isAgg39 rfl rfl rfl ?_)
  refine O_y hs (Y_move rfl ?_)
  refine O_s (S_lit hs Tryz.underlying39 Tryz.sizeOf87 Tryz.zeroValue87 rfl rfl (by decide) (by decide) rfl (cs := [_]) rfl rfl fun v10 _ hs _ => ?_)
  obtain ⟨_, hG84, hl84, hs⟩ := hs.fixRow (noMrow 4 hs rfl hob)
  refine O_s (S_append hs Tryz.underlying39 TI87 rfl (by decide) rfl rfl (hl84) (one1 rfl) (by omega) (by omega) fun v11 _ hs => ?_)
  refine O_y hs (Y_nil rfl ?_)
  refine O_y hs (Y_fieldAddr FO77_1 rfl (m := 1) rfl ?_)
  refine O_y hs (Y_fieldAddr FO43_1 rfl (m := 2) rfl ?_)
  have hs := hs.front 2 rfl (H' := [_, _, _, _, _]) rfl
  refine O_n (S_st hs Tryz.sizeOf39 rfl rfl (hs.rowOne 1 rfl) (by simp) (cs' := [_, _, _, _, _]) rfl fun _ hs => ?_)
  refine O_nil (T_sub [(5, _), (57, _), (58, _)] ⟨rfl, rfl, rfl, trivial⟩ ?_)
  have hs := hs.nilRow 4 1
  refine T_seq (T_region rfl ?_)
  refine O_y hs (Y_move rfl ?_)
  refine O_y hs (Y_move rfl ?_)
  refine O_y hs (Y_nil rfl ?_)
  refine O_y hs (Y_fieldAddr FO77_1 rfl (m := 1) rfl ?_)
  refine O_y hs (Y_fieldAddr FO43_2 rfl (m := 3) rfl ?_)
  refine O_y hs (Y_ld 1 Tryz.isAgg40 rfl rfl rfl ?_)
  refine O_s (S_lit hs Tryz.underlying40 Tryz.sizeOf4 Tryz.zeroValue4 rfl rfl (by decide) (by decide) rfl (cs := [_]) rfl rfl fun v12 _ hs _ => ?_)
  obtain ⟨_, hG95, hl95, hs⟩ := hs.fixRow (noMrow 5 hs rfl hob)
  refine O_s (S_append hs Tryz.underlying40 TI4 rfl (by decide) rfl rfl (hl95) (one1 rfl) (by omega) (by omega) fun v13 _ hs => ?_)
  refine O_y hs (Y_nil rfl ?_)
  refine O_y hs (Y_fieldAddr FO77_1 rfl (m := 1) rfl ?_)
  refine O_y hs (Y_fieldAddr FO43_2 rfl (m := 3) rfl ?_)
  have hs := hs.front 1 rfl (H' := [_, _, _, _, _, _]) rfl
  refine O_n (S_st hs Tryz.sizeOf40 rfl rfl (hs.rowOne 1 rfl) (by simp) (cs' := [_, _, _, _, _]) rfl fun _ hs => ?_)
  refine O_nil (T_sub [(5, _), (57, _), (58, _)] ⟨rfl, rfl, rfl, trivial⟩ ?_)
  have hs := hs.nilRow 22 1
  refine T_region rfl ?_
  refine O_y hs (Y_move rfl ?_)
  refine O_y hs (Y_move rfl ?_)
  refine O_y hs (Y_nil rfl ?_)
  refine O_y hs (Y_fieldAddr FO77_1 rfl (m := 1) rfl ?_)
  refine O_y hs (Y_fieldAddr FO43_3 rfl (m := 4) rfl ?_)
  refine O_y hs (Y_ld 1 Tryz.isAgg41 rfl rfl rfl ?_)
  refine O_s (S_lit hs Tryz.underlying41 Tryz.sizeOf22 Tryz.zeroValue22 rfl rfl (by decide) (by decide) rfl (cs := [_]) rfl rfl fun v14 _ hs _ => ?_)
  obtain ⟨_, hG106, hl106, hs⟩ := hs.fixRow (noMrow 6 hs rfl hob)
  refine O_s (S_append hs Tryz.underlying41 TI22 rfl (by decide) rfl rfl (hl106) (one1 rfl) (by omega) (by omega) fun v15 _ hs => ?_)
  refine O_y hs (Y_nil rfl ?_)
  refine O_y hs (Y_fieldAddr FO77_1 rfl (m := 1) rfl ?_)
  refine O_y hs (Y_fieldAddr FO43_3 rfl (m := 4) rfl ?_)
  have hs := hs.front 1 rfl (H' := [_, _, _, _, _, _, _]) rfl
  refine O_n (S_st hs Tryz.sizeOf41 rfl rfl (hs.rowOne 1 rfl) (by simp) (cs' := [_, _, _, _, _]) rfl fun _ hs => ?_)
  refine O_nil (T_sub [(5, _), (57, _), (58, _)] ⟨rfl, rfl, rfl, trivial⟩ ?_)
  refine T_region rfl ?_
  refine O_y hs (Y_add (c := (1)) rfl rfl (by decide) (by decide) ?_)
  refine O_y hs (Y_move rfl ?_)
  refine O_nil ⟨[(5, _), (57, _), (58, _)], ⟨rfl, rfl, rfl, trivial⟩, U_go ?_⟩
  refine T_seq (T_region rfl ?_)
  refine O_y hs (Y_cmpT rfl rfl rfl (by decide) ?_)
  refine O_nil (T_sub [(5, _), (57, _), (58, _), (59, _)] ⟨rfl, rfl, rfl, rfl, trivial⟩ ?_)
  refine T_seq (T_condT rfl (T_skip ?_))
  refine T_seq (T_block (T_seq (T_region rfl ?_)))
  refine O_y hs (Y_move rfl ?_)
  refine O_y hs (Y_nil rfl ?_)
  refine O_y hs (Y_fieldAddr FO77_1 rfl (m := 1) rfl ?_)
  refine O_y hs (Y_fieldAddr FO43_0 rfl (m := 1) rfl ?_)
  refine O_y hs (Y_ld 0 Tryz.isAgg38 rfl rfl rfl ?_)
  refine O_y hs (Y_lenOwn 5 rfl Tryz.underlying38 rfl hs ?_)
  refine O_s (S_makeB (n := 2) hs Tryz.underlying87 TI81 rfl rfl (by decide) (by decide) (cs := [.int .i64 0, .slice none 0 0, .int .i64 0, .slice none 0 0]) (by kernel_rfl) fun m1 _ hs => ?_)
  refine O_y hs (Y_assign rfl ?_)
  refine O_nil (T_sub [(5, _), (8, _), (57, _), (58, _)] ⟨rfl, rfl, rfl, rfl, trivial⟩ ?_)
  refine T_seq (T_seq (T_region rfl ?_))
  refine O_y hs (Y_move rfl ?_)
  refine O_y hs (Y_len Tryz.underlying87 rfl ?_)
  refine O_y hs (Y_move rfl ?_)
  refine O_nil (T_sub [(5, _), (8, _), (57, _), (58, _), (68, _), (69, _)] ⟨rfl, rfl, rfl, rfl, rfl, rfl, trivial⟩ ?_)
  refine T_block (T_loopN 3 (L := [(5, _), (8, _), (57, _), (58, _), (68, _), (69, _)]) ⟨rfl, rfl, rfl, rfl, rfl, rfl, trivial⟩ (U_go ?_))
  refine T_seq (T_region rfl ?_)
  refine O_y hs (Y_cmpT rfl rfl rfl (by decide) ?_)
  refine O_nil (T_sub [(5, _), (8, _), (57, _), (58, _), (68, _), (69, _), (70, _)] ⟨rfl, rfl, rfl, rfl, rfl, rfl, rfl, trivial⟩ ?_)
  refine T_seq (T_condT rfl (T_skip ?_))
  refine T_seq (T_block (T_seq (T_region rfl ?_)))
  refine O_y hs (Y_move rfl ?_)
  refine O_y hs (Y_assign rfl ?_)
  refine O_nil (T_sub [(5, _), (8, _), (9, _), (57, _), (58, _), (68, _), (69, _)] ⟨rfl, rfl, rfl, rfl, rfl, rfl, rfl, trivial⟩ ?_)
  refine T_region rfl ?_
  refine O_y hs (Y_move rfl ?_)
  refine O_y hs (Y_move rfl ?_)
  refine O_y hs (Y_idxBlk 0 Tryz.underlying87 Tryz.sizeOf81 rfl rfl rfl (by decide) (m := 0) rfl ?_)
  refine O_y hs (Y_fieldAddr FO81_0 rfl (m := 0) rfl ?_)
  refine O_n (S_st hs Tryz.sizeOf3 rfl rfl rfl (by simp) (cs' := [_, _, _, _]) rfl fun _ hs => ?_)
  refine O_nil (T_sub [(5, _), (8, _), (57, _), (58, _), (68, _), (69, _)] ⟨rfl, rfl, rfl, rfl, rfl, rfl, trivial⟩ ?_)
  refine T_region rfl ?_
  refine O_y hs (Y_add (c := (1)) rfl rfl (by decide) (by decide) ?_)
  refine O_y hs (Y_move rfl ?_)
  refine O_nil ⟨[(5, _), (8, _), (57, _), (58, _), (68, _), (69, _)], ⟨rfl, rfl, rfl, rfl, rfl, rfl, trivial⟩, U_go ?_⟩
  refine T_seq (T_region rfl ?_)
  refine O_y hs (Y_cmpT rfl rfl rfl (by decide) ?_)
  refine O_nil (T_sub [(5, _), (8, _), (57, _), (58, _), (68, _), (69, _), (70, _)] ⟨rfl, rfl, rfl, rfl, rfl, rfl, rfl, trivial⟩ ?_)
  refine T_seq (T_condT rfl (T_skip ?_))
  refine T_seq (T_block (T_seq (T_region rfl ?_)))
  refine O_y hs (Y_move rfl ?_)
  refine O_y hs (Y_assign rfl ?_)
  refine O_nil (T_sub [(5, _), (8, _), (9, _), (57, _), (58, _), (68, _), (69, _)] ⟨rfl, rfl, rfl, rfl, rfl, rfl, rfl, trivial⟩ ?_)
  refine T_region rfl ?_
  refine O_y hs (Y_move rfl ?_)
  refine O_y hs (Y_move rfl ?_)
  refine O_y hs (Y_idxBlk 1 Tryz.underlying87 Tryz.sizeOf81 rfl rfl rfl (by decide) (m := 2) rfl ?_)
  refine O_y hs (Y_fieldAddr FO81_0 rfl (m := 2) rfl ?_)
  refine O_n (S_st hs Tryz.sizeOf3 rfl rfl rfl (by simp) (cs' := [_, _, _, _]) rfl fun _ hs => ?_)
  refine O_nil (T_sub [(5, _), (8, _), (57, _), (58, _), (68, _), (69, _)] ⟨rfl, rfl, rfl, rfl, rfl, rfl, trivial⟩ ?_)
  refine T_region rfl ?_
  refine O_y hs (Y_add (c := (2)) rfl rfl (by decide) (by decide) ?_)
  refine O_y hs (Y_move rfl ?_)
  refine O_nil ⟨[(5, _), (8, _), (57, _), (58, _), (68, _), (69, _)], ⟨rfl, rfl, rfl, rfl, rfl, rfl, trivial⟩, U_go ?_⟩
  refine T_seq (T_region rfl ?_)
  refine O_y hs (Y_cmpF rfl rfl rfl (by decide) ?_)
  refine O_nil (T_sub [(5, _), (8, _), (57, _), (58, _), (68, _), (69, _), (70, _)] ⟨rfl, rfl, rfl, rfl, rfl, rfl, rfl, trivial⟩ ?_)
  refine T_seq (T_condF rfl (T_exit ?_))
  refine T_seq (T_region rfl ?_)
  refine O_y hs (Y_move rfl ?_)
  refine O_y hs (Y_move rfl ?_)
  refine O_y hs (Y_nil rfl ?_)
  refine O_y hs (Y_fieldAddr FO77_1 rfl (m := 1) rfl ?_)
  refine O_y hs (Y_fieldAddr FO43_1 rfl (m := 2) rfl ?_)
  refine O_y hs (Y_ld 1 Tryz.isAgg39 rfl rfl rfl ?_)
  refine O_y hs (Y_move rfl ?_)
  refine O_s (S_lit hs Tryz.underlying39 Tryz.sizeOf87 Tryz.zeroValue87 rfl rfl (by decide) (by decide) rfl (cs := [_]) rfl rfl fun v16 _ hs _ => ?_)
  obtain ⟨_, hG84, hl84, hs⟩ := hs.fixRow (noMrow 7 hs rfl hob)
  have hs := hs.front 4 rfl (H' := [_, _, _, _, _, _, _, _]) rfl
  refine O_s (S_append hs Tryz.underlying39 TI87 rfl (by decide) rfl rfl (hl84) (one1 rfl) (by omega) (by omega) fun v17 _ hs => ?_)
  refine O_y hs (Y_nil rfl ?_)
  refine O_y hs (Y_fieldAddr FO77_1 rfl (m := 1) rfl ?_)
  refine O_y hs (Y_fieldAddr FO43_1 rfl (m := 2) rfl ?_)
  have hs := hs.front 2 rfl (H' := [_, _, _, _, _, _, _, _]) rfl
  refine O_n (S_st hs Tryz.sizeOf39 rfl rfl (hs.rowOne 1 rfl) (by simp) (cs' := [_, _, _, _, _]) rfl fun _ hs => ?_)
  refine O_nil (T_sub [(5, _), (57, _), (58, _)] ⟨rfl, rfl, rfl, trivial⟩ ?_)
  refine T_seq (T_region rfl ?_)
  refine O_y hs (Y_move rfl ?_)
  refine O_y hs (Y_move rfl ?_)
  refine O_y hs (Y_nil rfl ?_)
  refine O_y hs (Y_fieldAddr FO77_1 rfl (m := 1) rfl ?_)
  refine O_y hs (Y_fieldAddr FO43_2 rfl (m := 3) rfl ?_)
  refine O_y hs (Y_ld 0 Tryz.isAgg40 rfl rfl rfl ?_)
  refine O_s (S_lit hs Tryz.underlying40 Tryz.sizeOf4 Tryz.zeroValue4 rfl rfl (by decide) (by decide) rfl (cs := [_]) rfl rfl fun v18 _ hs _ => ?_)
  obtain ⟨_, hG95, hl95, hs⟩ := hs.fixRow (noMrow 7 hs rfl hob)
  have hs := hs.front 4 rfl (H' := [_, _, _, _, _, _, _, _]) rfl
  refine O_s (S_append hs Tryz.underlying40 TI4 rfl (by decide) rfl rfl (hl95) (one1 rfl) (by omega) (by omega) fun v19 _ hs => ?_)
  refine O_y hs (Y_nil rfl ?_)
  refine O_y hs (Y_fieldAddr FO77_1 rfl (m := 1) rfl ?_)
  refine O_y hs (Y_fieldAddr FO43_2 rfl (m := 3) rfl ?_)
  have hs := hs.front 1 rfl (H' := [_, _, _, _, _, _, _, _]) rfl
  refine O_n (S_st hs Tryz.sizeOf40 rfl rfl (hs.rowOne 1 rfl) (by simp) (cs' := [_, _, _, _, _]) rfl fun _ hs => ?_)
  refine O_nil (T_sub [(5, _), (57, _), (58, _)] ⟨rfl, rfl, rfl, trivial⟩ ?_)
  refine T_region rfl ?_
  refine O_y hs (Y_move rfl ?_)
  refine O_y hs (Y_move rfl ?_)
  refine O_y hs (Y_nil rfl ?_)
  refine O_y hs (Y_fieldAddr FO77_1 rfl (m := 1) rfl ?_)
  refine O_y hs (Y_fieldAddr FO43_3 rfl (m := 4) rfl ?_)
  refine O_y hs (Y_ld 0 Tryz.isAgg41 rfl rfl rfl ?_)
  refine O_s (S_lit hs Tryz.underlying41 Tryz.sizeOf22 Tryz.zeroValue22 rfl rfl (by decide) (by decide) rfl (cs := [_]) rfl rfl fun v20 _ hs _ => ?_)
  obtain ⟨_, hG106, hl106, hs⟩ := hs.fixRow (noMrow 7 hs rfl hob)
  have hs := hs.front 4 rfl (H' := [_, _, _, _, _, _, _, _]) rfl
  refine O_s (S_append hs Tryz.underlying41 TI22 rfl (by decide) rfl rfl (hl106) (one1 rfl) (by omega) (by omega) fun v21 _ hs => ?_)
  refine O_y hs (Y_nil rfl ?_)
  refine O_y hs (Y_fieldAddr FO77_1 rfl (m := 1) rfl ?_)
  refine O_y hs (Y_fieldAddr FO43_3 rfl (m := 4) rfl ?_)
  have hs := hs.front 1 rfl (H' := [_, _, _, _, _, _, _, _]) rfl
  refine O_n (S_st hs Tryz.sizeOf41 rfl rfl (hs.rowOne 1 rfl) (by simp) (cs' := [_, _, _, _, _]) rfl fun _ hs => ?_)
  refine O_nil (T_sub [(5, _), (57, _), (58, _)] ⟨rfl, rfl, rfl, trivial⟩ ?_)
  refine T_region rfl ?_
  refine O_y hs (Y_add (c := (2)) rfl rfl (by decide) (by decide) ?_)
  refine O_y hs (Y_move rfl ?_)
  refine O_nil ⟨[(5, _), (57, _), (58, _)], ⟨rfl, rfl, rfl, trivial⟩, U_go ?_⟩
  refine T_seq (T_region rfl ?_)
  refine O_y hs (Y_cmpF rfl rfl rfl (by decide) ?_)
  refine O_nil (T_sub [(5, _), (57, _), (58, _), (59, _)] ⟨rfl, rfl, rfl, rfl, trivial⟩ ?_)
  refine T_seq (T_condF rfl (T_exit ?_))
  refine T_seq (T_region rfl ?_)
  refine O_y hs (Y_move rfl ?_)
  refine O_y hs (Y_assign rfl ?_)
  refine O_nil (T_sub [(4, _)] ⟨rfl, trivial⟩ ?_)
  refine T_ret ?_
  have hs := hs.front 7 rfl (H' := [_, _, _, _, _, _, _, _]) rfl
  have hs := hs.front 7 rfl (H' := [_, _, _, _, _, _, _, _]) rfl
  have hs := hs.front 5 rfl (H' := [_, _, _, _, _, _, _, _]) rfl
  have hs := hs.front 5 rfl (H' := [_, _, _, _, _, _, _, _]) rfl
  have hs := hs.front 5 rfl (H' := [_, _, _, _, _, _, _, _]) rfl
  have hs := hs.front 7 rfl (H' := [_, _, _, _, _, _, _, _]) rfl
  have hs := hs.front 7 rfl (H' := [_, _, _, _, _, _, _, _]) rfl
  refine Rt_fin (vs := [_]) Tryz.results40 rfl ⟨rfl, trivial⟩ ?_
  try dsimp only [tup]
  exact ⟨_, _, hs, _, _, _, _, _, _, _, _, rfl, rfl⟩

set_option maxHeartbeats 400000 in
set_option maxRecDepth 10000 in
theorem matcher_aa {G : Ghost} {v1 v2 : Value} (ho1 : Bytes G v1 [97, 97]) (ho2 : Bytes G v2 [98]) :
    FnOk Tryz.prog 44 [.agg #[.int .i64 6, v1, v2]] G [] fun r G' H' => ∃ bb sp vC vM vF vE, r = .pointer (some ⟨bb, 0, none⟩) ∧ H' = [.blk bb 77 [sp, vC, vM, vF, vE]] ∧ TrR G' (.agg #[vC, vM, vF, vE]) trAA := by
  obtain ⟨A1, c1, rfl, _⟩ := id ho1
  obtain ⟨A2, c2, rfl, _⟩ := id ho2
  refine FnOk.of_T [(0, _)] Tryz.func44 rfl Tryz.ntmps44 (by simp) rfl fun w0 hs => ?_
  have ho10 := ho1
  have ho20 := ho2
  refine T_seq (T_region rfl ?_)
  refine O_s (S_box hs rfl (cs := [_, _, _]) rfl fun b1 _ hs => ?_)
  refine O_y hs (Y_assign rfl ?_)
  refine O_nil (T_sub [(1, _)] ⟨rfl, trivial⟩ ?_)
  refine T_seq (T_region rfl ?_)
  refine O_y hs (Y_fieldAddr FO24_1 rfl (m := 1) rfl ?_)
  refine O_y hs (Y_ld 0 Tryz.isAgg22 rfl rfl rfl ?_)
  refine O_y hs (Y_len Tryz.underlying22 rfl ?_)
  refine O_y hs (Y_assign rfl ?_)
  refine O_nil (T_sub [(1, _), (3, _)] ⟨rfl, rfl, trivial⟩ ?_)
  refine T_seq (T_region rfl ?_)
  refine O_y hs (Y_move rfl ?_)
  refine O_y hs (Y_assign rfl ?_)
  refine O_nil (T_sub [(1, _), (3, _), (4, _)] ⟨rfl, rfl, rfl, trivial⟩ ?_)
  refine T_seq (T_region rfl ?_)
  refine O_y hs (Y_assign rfl ?_)
  refine O_nil (T_sub [(1, _), (3, _), (4, _), (5, _)] ⟨rfl, rfl, rfl, rfl, trivial⟩ ?_)
  refine T_seq (T_seq (T_region rfl ?_))
  refine O_y hs (Y_fieldAddr FO24_0 rfl (m := 0) rfl ?_)
  refine O_y hs (Y_ld 0 Tryz.isAgg3 rfl rfl rfl ?_)
  refine O_y hs (Y_cmpF rfl rfl rfl (by decide) ?_)
  refine O_nil (T_sub [(1, _), (3, _), (4, _), (5, _), (20, _)] ⟨rfl, rfl, rfl, rfl, rfl, trivial⟩ ?_)
  refine T_condF rfl (T_skip ?_)
  refine T_seq (T_region rfl ?_)
  refine O_y hs (Y_move rfl ?_)
  refine O_y hs (Y_fieldAddr FO24_1 rfl (m := 1) rfl ?_)
  refine O_y hs (Y_ld 0 Tryz.isAgg22 rfl rfl rfl ?_)
  refine O_s (S_call (H1 := []) hs rfl Tryz.func35 rfl (by kernel_rfl) (clone_own ho1 (by decide)) fun v1 G' H' _ hR hG27 hs => ?_)
  obtain rfl := hR
  replace hs : St _ _ [_, _] _ := hs
  replace ho1 := ho1.mono hG27
  replace ho2 := ho2.mono hG27
  refine O_s (S_call (H1 := [_]) hs rfl Tryz.func40 rfl (by kernel_rfl) (newb_aa) fun v2 G' H' _ hR hG28 hs => ?_)
  obtain ⟨bb, m0, m1, sp, vC, vM, vF, vE, rfl, rfl⟩ := hR
  replace hs : St _ _ [_, _, _, _, _, _, _, _, _] _ := hs
  replace ho1 := ho1.mono hG28
  replace ho2 := ho2.mono hG28
  have hs := hs.front 6 rfl (H' := [_, _, _, _, _, _, _, _, _]) rfl
  obtain ⟨_, hG_hsp, hsp, hs⟩ := hs.fixRow noM
  replace ho1 := ho1.mono hG_hsp
  replace ho2 := ho2.mono hG_hsp
  replace hsp : Bytes _ sp [97] := Bytes.ofSl hsp rfl rfl
  have hs := hs.front 5 rfl (H' := [_, _, _, _, _, _, _, _]) rfl
  obtain ⟨_, hG_hvC, hvC, hs⟩ := hs.fixRow noM
  replace ho1 := ho1.mono hG_hvC
  replace ho2 := ho2.mono hG_hvC
  replace hsp := hsp.mono hG_hvC
  have hs := hs.front 3 rfl (H' := [_, _, _, _, _, _, _]) rfl
  obtain ⟨_, hG_hvF, hvF, hs⟩ := hs.fixRow noM
  replace ho1 := ho1.mono hG_hvF
  replace ho2 := ho2.mono hG_hvF
  replace hsp := hsp.mono hG_hvF
  replace hvC := hvC.mono hG_hvF
  obtain ⟨bE, cE, rfl, hcE⟩ := hs.rowForm 2 rfl (by decide)
  refine O_y hs (Y_assign rfl ?_)
  refine O_nil (T_sub [(1, _), (3, _), (4, _), (5, _), (6, _)] ⟨rfl, rfl, rfl, rfl, rfl, trivial⟩ ?_)
  refine T_seq (T_seq (T_region rfl ?_))
  refine O_y hs (Y_move rfl ?_)
  refine O_y hs (Y_move rfl ?_)
  refine O_nil (T_sub [(1, _), (3, _), (5, _), (6, _), (29, _), (30, _)] ⟨rfl, rfl, rfl, rfl, rfl, rfl, trivial⟩ ?_)
  refine T_block (T_loopN 3 (L := [(1, _), (3, _), (5, _), (6, _), (29, _), (30, _)]) ⟨rfl, rfl, rfl, rfl, rfl, rfl, trivial⟩ (U_go ?_))
  refine T_seq (T_region rfl ?_)
  refine O_y hs (Y_cmpT rfl rfl rfl (by decide) ?_)
  refine O_nil (T_sub [(1, _), (3, _), (5, _), (6, _), (29, _), (30, _), (31, _)] ⟨rfl, rfl, rfl, rfl, rfl, rfl, rfl, trivial⟩ ?_)
  refine T_seq (T_condT rfl (T_skip ?_))
  refine T_seq (T_block (T_seq (T_region rfl ?_)))
  refine O_y hs (Y_move rfl ?_)
  refine O_y hs (Y_assign rfl ?_)
  refine O_nil (T_sub [(1, _), (3, _), (5, _), (6, _), (7, _), (29, _), (30, _)] ⟨rfl, rfl, rfl, rfl, rfl, rfl, rfl, trivial⟩ ?_)
  refine T_seq (T_seq (T_region rfl ?_))
  refine O_y hs (Y_move rfl ?_)
  refine O_y hs (Y_move rfl ?_)
  refine O_y hs (Y_cmpF rfl rfl rfl (by decide) ?_)
  refine O_nil (T_sub [(1, _), (3, _), (5, _), (6, _), (7, _), (29, _), (30, _), (35, _)] ⟨rfl, rfl, rfl, rfl, rfl, rfl, rfl, rfl, trivial⟩ ?_)
  refine T_condF rfl (T_skip ?_)
  refine T_seq (T_region rfl ?_)
  refine O_y hs (Y_move rfl ?_)
  refine O_y hs (Y_move rfl ?_)
  refine O_y hs (Y_fieldAddr FO24_1 rfl (m := 1) rfl ?_)
  refine O_y hs (Y_ld 5 Tryz.isAgg22 rfl rfl rfl ?_)
  refine O_y hs (Y_move rfl ?_)
  refine O_y hs (Y_sliceB ho1 0 0 Tryz.underlying22 Tryz.sizeOf5 rfl rfl ⟨_, _, rfl, rfl⟩ (by decide) (by decide) fun s60 hs60 => ?_)
  obtain ⟨A60, c60, rfl, _⟩ := id hs60
  have hs := hs.front 4 rfl (H' := [_, _, _, _, _, _]) rfl
  have hs := hs.front 4 rfl (H' := [_, _, _, _, _, _]) rfl
  have hs := hs.front 3 rfl (H' := [_, _, _, _, _, _]) rfl
  refine O_s (S_call (H1 := [_, _, _]) hs rfl Tryz.func41 rfl (by kernel_rfl) (other_ok (fr := 0) (by decide) rfl hs60 (by decide)) fun v3 G' H' _ hR hG61 hs => ?_)
  obtain ⟨r0, rfl⟩ := hR
  replace hs : St _ _ [_, _, _, _, _, _, _] _ := hs
  replace ho1 := ho1.mono hG61
  replace ho2 := ho2.mono hG61
  replace hsp := hsp.mono hG61
  replace hvC := hvC.mono hG61
  replace hvF := hvF.mono hG61
  replace hs60 := hs60.mono hG61
  obtain ⟨_, hG_hr0, hr0, hs⟩ := hs.fixRow noM
  replace ho1 := ho1.mono hG_hr0
  replace ho2 := ho2.mono hG_hr0
  replace hsp := hsp.mono hG_hr0
  replace hvC := hvC.mono hG_hr0
  replace hvF := hvF.mono hG_hr0
  replace hs60 := hs60.mono hG_hr0
  refine O_nil (T_sub [(1, _), (3, _), (5, _), (6, _), (7, _), (29, _), (30, _)] ⟨rfl, rfl, rfl, rfl, rfl, rfl, rfl, trivial⟩ ?_)
  refine T_seq (T_drawS [0, 1, 2, 3, 4, 5, 6, 7, 8, 9, 10, 11] hs (by kernel_rfl) ?_)
  replace hs := hs.drew
  refine A_take 0 rfl (by kernel_rfl) rfl hs (Y_move rfl ?_)
  refine A_take 1 rfl (by kernel_rfl) rfl hs (Y_nil rfl ?_)
  refine A_take 2 rfl (by kernel_rfl) rfl hs (Y_fieldAddr FO77_1 rfl (m := 1) rfl ?_)
  refine A_take 3 rfl (by kernel_rfl) rfl hs (Y_fieldAddr FO43_3 rfl (m := 4) rfl ?_)
  refine A_take 4 rfl (by kernel_rfl) rfl hs (Y_ld 2 Tryz.isAgg41 rfl rfl rfl ?_)
  refine A_take 5 rfl (by kernel_rfl) rfl hs (Y_move rfl ?_)
  refine A_take 6 rfl (by kernel_rfl) rfl hs (Y_fieldAddr FO24_1 rfl (m := 1) rfl ?_)
  refine A_take 7 rfl (by kernel_rfl) rfl hs (Y_ld 5 Tryz.isAgg22 rfl rfl rfl ?_)
  refine A_take 8 rfl (by kernel_rfl) rfl hs (Y_move rfl ?_)
  refine A_take 9 rfl (by kernel_rfl) rfl hs (Y_sliceB ho1 0 0 Tryz.underlying22 Tryz.sizeOf5 rfl rfl ⟨_, _, rfl, rfl⟩ (by decide) (by decide) fun s71 hs71 => ?_)
  obtain ⟨A71, c71, rfl, _⟩ := id hs71
  have hle := hs.le
  refine A_only 10 rfl (by kernel_rfl) rfl (S_call (H1 := []) hs rfl Tryz.func35 rfl (by kernel_rfl) (clone_ok hs71 (by decide)) fun v4 G' H' _ hR hG72 hs => ?_)
  obtain ⟨rfl, he0⟩ := hR
  obtain ⟨A72, c72, rfl, _⟩ := id he0
  replace hs : St _ _ [_, _, _, _, _, _] _ := hs
  replace ho1 := ho1.mono hG72
  replace ho2 := ho2.mono hG72
  replace hsp := hsp.mono hG72
  replace hvC := hvC.mono hG72
  replace hvF := hvF.mono hG72
  replace hs60 := hs60.mono hG72
  replace hr0 := hr0.mono hG72
  replace hs71 := hs71.mono hG72
  refine A_moreS hs hle hG72 (List.Sublist.refl _) ?_
  refine A_take 11 rfl (by kernel_rfl) rfl hs (Y_idxRow (0) Tryz.underlying41 Tryz.sizeOf22 rfl rfl rfl (by decide) ?_)
  have hs := hs.front 4 rfl (H' := [_, _, _, _, _, _]) rfl
  refine A_tailN 12 rfl (by kernel_rfl) (by kernel_rfl) rfl (S_stRow hs Tryz.sizeOf22 rfl rfl rfl (by omega) fun _ hs => ?_)
  refine A_done (by kernel_rfl) (T_sub [(1, _), (3, _), (5, _), (6, _), (7, _), (29, _), (30, _)] ⟨rfl, rfl, rfl, rfl, rfl, rfl, rfl, trivial⟩ ?_)
  refine T_seq (T_region rfl ?_)
  refine O_y hs (Y_fieldAddr FO24_1 rfl (m := 1) rfl ?_)
  refine O_y hs (Y_ld 5 Tryz.isAgg22 rfl rfl rfl ?_)
  refine O_y hs (Y_len Tryz.underlying22 rfl ?_)
  refine O_y hs (Y_move rfl ?_)
  refine O_nil (T_sub [(1, _), (3, _), (5, _), (6, _), (7, _), (29, _), (30, _), (75, _), (76, _), (77, _)] ⟨rfl, rfl, rfl, rfl, rfl, rfl, rfl, rfl, rfl, rfl, trivial⟩ ?_)
  refine T_block (T_loopN 3 (L := [(1, _), (3, _), (5, _), (6, _), (7, _), (29, _), (30, _), (75, _), (76, _), (77, _)]) ⟨rfl, rfl, rfl, rfl, rfl, rfl, rfl, rfl, rfl, rfl, trivial⟩ (U_go ?_))
  refine T_seq (T_region rfl ?_)
  refine O_y hs (Y_cmpT rfl rfl rfl (by decide) ?_)
  refine O_nil (T_sub [(1, _), (3, _), (5, _), (6, _), (7, _), (29, _), (30, _), (75, _), (76, _), (77, _), (78, _)] ⟨rfl, rfl, rfl, rfl, rfl, rfl, rfl, rfl, rfl, rfl, rfl, trivial⟩ ?_)
  refine T_seq (T_condT rfl (T_skip ?_))
  refine T_seq (T_block (T_seq (T_region rfl ?_)))
  refine O_y hs (Y_idxB ho1 0 Tryz.underlying22 Tryz.sizeOf5 rfl rfl rfl (by decide) fun p79 hp79 => ?_)
  refine O_y hs (Y_ldG Tryz.isAgg5 rfl (hp79) ?_)
  refine O_y hs (Y_assign rfl ?_)
  refine O_nil (T_sub [(1, _), (3, _), (5, _), (6, _), (7, _), (11, _), (29, _), (30, _), (75, _), (76, _), (77, _)] ⟨rfl, rfl, rfl, rfl, rfl, rfl, rfl, rfl, rfl, rfl, rfl, trivial⟩ ?_)
  refine T_seq (T_region rfl ?_)
  refine O_y hs (Y_fieldAddr FO24_1 rfl (m := 1) rfl ?_)
  refine O_y hs (Y_ld 5 Tryz.isAgg22 rfl rfl rfl ?_)
  refine O_y hs (Y_move rfl ?_)
  refine O_y hs (Y_sliceB ho1 0 0 Tryz.underlying22 Tryz.sizeOf5 rfl rfl ⟨_, _, rfl, rfl⟩ (by decide) (by decide) fun s84 hs84 => ?_)
  obtain ⟨A84, c84, rfl, _⟩ := id hs84
  refine O_s (S_call (H1 := []) hs rfl Tryz.func35 rfl (by kernel_rfl) (clone_own hs84 (by decide)) fun v5 G' H' _ hR hG85 hs => ?_)
  obtain rfl := hR
  replace hs : St _ _ [_, _, _, _, _, _, _] _ := hs
  replace ho1 := ho1.mono hG85
  replace ho2 := ho2.mono hG85
  replace hsp := hsp.mono hG85
  replace hvC := hvC.mono hG85
  replace hvF := hvF.mono hG85
  replace hs60 := hs60.mono hG85
  replace hr0 := hr0.mono hG85
  replace hs71 := hs71.mono hG85
  replace he0 := he0.mono hG85
  replace hs84 := hs84.mono hG85
  refine O_y hs (Y_move rfl ?_)
  refine O_s (S_lit hs Tryz.underlying22 Tryz.sizeOf5 Tryz.zeroValue5 rfl rfl (by decide) (by decide) rfl (cs := [_]) rfl rfl fun v6 _ hs _ => ?_)
  obtain ⟨_, hG87, hl87, hs⟩ := hs.fixRow noM
  replace ho1 := ho1.mono hG87
  replace ho2 := ho2.mono hG87
  replace hsp := hsp.mono hG87
  replace hvC := hvC.mono hG87
  replace hvF := hvF.mono hG87
  replace hs60 := hs60.mono hG87
  replace hr0 := hr0.mono hG87
  replace hs71 := hs71.mono hG87
  replace he0 := he0.mono hG87
  replace hs84 := hs84.mono hG87
  refine O_s (S_append hs Tryz.underlying22 TI5 rfl (by decide) rfl rfl (hl87) (one1 rfl) (by decide) (by decide) fun v7 _ hs => ?_)
  refine O_y hs (Y_assign rfl ?_)
  refine O_nil (T_sub [(1, _), (3, _), (5, _), (6, _), (7, _), (11, _), (12, _), (29, _), (30, _), (75, _), (76, _), (77, _)] ⟨rfl, rfl, rfl, rfl, rfl, rfl, rfl, rfl, rfl, rfl, rfl, rfl, trivial⟩ ?_)
  obtain ⟨Ard, crd, rfl⟩ := hs.rowSl 0 rfl
  obtain ⟨_, hG_hrd, hrd, hs⟩ := hs.fixRow noM
  replace ho1 := ho1.mono hG_hrd
  replace ho2 := ho2.mono hG_hrd
  replace hsp := hsp.mono hG_hrd
  replace hvC := hvC.mono hG_hrd
  replace hvF := hvF.mono hG_hrd
  replace hs60 := hs60.mono hG_hrd
  replace hr0 := hr0.mono hG_hrd
  replace hs71 := hs71.mono hG_hrd
  replace he0 := he0.mono hG_hrd
  replace hs84 := hs84.mono hG_hrd
  replace hrd : Bytes _ (.slice Ard 1 crd) [97] := Bytes.ofSl hrd rfl rfl
  refine T_seq (T_seq (T_region rfl ?_))
  refine O_y hs (Y_move rfl ?_)
  refine O_y hs (Y_fieldAddr FO24_1 rfl (m := 1) rfl ?_)
  refine O_y hs (Y_ld 5 Tryz.isAgg22 rfl rfl rfl ?_)
  refine O_s (S_call (H1 := []) hs rfl Tryz.func74 rfl (by kernel_rfl) (equal_ok hrd ho1) fun v8 G' H' _ hR hG92 hs => ?_)
  obtain ⟨rfl, rfl⟩ := hR
  replace hs : St _ _ [_, _, _, _, _, _] _ := hs
  replace ho1 := ho1.mono hG92
  replace ho2 := ho2.mono hG92
  replace hsp := hsp.mono hG92
  replace hvC := hvC.mono hG92
  replace hvF := hvF.mono hG92
  replace hs60 := hs60.mono hG92
  replace hr0 := hr0.mono hG92
  replace hs71 := hs71.mono hG92
  replace he0 := he0.mono hG92
  replace hs84 := hs84.mono hG92
  replace hrd := hrd.mono hG92
  rw [show decide (([97] : List UInt8) = [97, 97]) = false by decide]
  refine O_nil (T_sub [(1, _), (3, _), (5, _), (6, _), (7, _), (11, _), (12, _), (29, _), (30, _), (75, _), (76, _), (77, _), (92, _)] ⟨rfl, rfl, rfl, rfl, rfl, rfl, rfl, rfl, rfl, rfl, rfl, rfl, rfl, trivial⟩ ?_)
  refine T_condF rfl (T_skip ?_)
  refine T_seq (T_region rfl ?_)
  refine O_y hs (Y_move rfl ?_)
  refine O_y hs (Y_len Tryz.underlying22 rfl ?_)
  refine O_y hs (Y_assign rfl ?_)
  refine O_nil (T_sub [(1, _), (3, _), (5, _), (6, _), (7, _), (11, _), (12, _), (13, _), (29, _), (30, _), (75, _), (76, _), (77, _)] ⟨rfl, rfl, rfl, rfl, rfl, rfl, rfl, rfl, rfl, rfl, rfl, rfl, rfl, trivial⟩ ?_)
  refine T_seq (T_block (T_loopN 1 (L := [(1, _), (3, _), (5, _), (6, _), (7, _), (11, _), (12, _), (13, _), (29, _), (30, _), (75, _), (76, _), (77, _)]) ⟨rfl, rfl, rfl, rfl, rfl, rfl, rfl, rfl, rfl, rfl, rfl, rfl, rfl, trivial⟩ (U_go ?_)))
  refine T_seq (T_seq (T_drawS [0, 1, 2, 3, 4, 5, 6, 7, 8, 9] hs (by kernel_rfl) ?_))
  replace hs := hs.drew
  refine A_take 0 rfl (by kernel_rfl) rfl hs (Y_fieldAddr FO24_1 rfl (m := 1) rfl ?_)
  refine A_take 1 rfl (by kernel_rfl) rfl hs (Y_ld 5 Tryz.isAgg22 rfl rfl rfl ?_)
  refine A_take 2 rfl (by kernel_rfl) rfl hs (Y_move rfl ?_)
  refine A_take 3 rfl (by kernel_rfl) rfl hs (Y_move rfl ?_)
  refine A_take 4 rfl (by kernel_rfl) rfl hs (Y_len Tryz.underlying22 rfl ?_)
  refine A_take 5 rfl (by kernel_rfl) rfl hs (Y_move rfl ?_)
  refine A_take 6 rfl (by kernel_rfl) rfl hs (Y_sub (c := (0)) rfl rfl (by decide) (by decide) ?_)
  refine A_take 7 rfl (by kernel_rfl) rfl hs (Y_sliceB hrd 0 1 Tryz.underlying22 Tryz.sizeOf5 rfl ⟨_, _, rfl, rfl⟩ rfl (by decide) (by decide) fun s109 hs109 => ?_)
  obtain ⟨A109, c109, rfl, _⟩ := id hs109
  have hle := hs.le
  refine A_only 8 rfl (by kernel_rfl) rfl (S_call (H1 := []) hs rfl Tryz.func75 rfl (by kernel_rfl) (hasp_ok ho1 hs109) fun v9 G' H' _ hR hG110 hs => ?_)
  obtain ⟨rfl, rfl⟩ := hR
  replace hs : St _ _ [_, _, _, _, _, _] _ := hs
  replace ho1 := ho1.mono hG110
  replace ho2 := ho2.mono hG110
  replace hsp := hsp.mono hG110
  replace hvC := hvC.mono hG110
  replace hvF := hvF.mono hG110
  replace hs60 := hs60.mono hG110
  replace hr0 := hr0.mono hG110
  replace hs71 := hs71.mono hG110
  replace he0 := he0.mono hG110
  replace hs84 := hs84.mono hG110
  replace hrd := hrd.mono hG110
  replace hs109 := hs109.mono hG110
  rw [show List.isPrefixOf (List.take (1 - 0) (List.drop 0 [97])) ([97, 97] : List UInt8) = true by decide]
  refine A_moreS hs hle hG110 (List.Sublist.refl _) ?_
  refine A_take 9 rfl (by kernel_rfl) rfl hs (Y_not rfl ?_)
  refine A_done (by kernel_rfl) (T_sub [(1, _), (3, _), (5, _), (6, _), (7, _), (11, _), (12, _), (13, _), (29, _), (30, _), (75, _), (76, _), (77, _), (111, _)] ⟨rfl, rfl, rfl, rfl, rfl, rfl, rfl, rfl, rfl, rfl, rfl, rfl, rfl, rfl, trivial⟩ ?_)
  refine T_condF rfl (T_exit ?_)
  refine T_region rfl ?_
  refine O_y hs (Y_move rfl ?_)
  refine O_y hs (Y_move rfl ?_)
  refine O_y hs (Y_move rfl ?_)
  refine O_y hs (Y_move rfl ?_)
  refine O_y hs (Y_move rfl ?_)
  refine O_y hs (Y_move rfl ?_)
  refine O_y hs (Y_len Tryz.underlying22 rfl ?_)
  refine O_y hs (Y_move rfl ?_)
  refine O_y hs (Y_sub (c := (0)) rfl rfl (by decide) (by decide) ?_)
  refine O_y hs (Y_sliceB hrd 0 0 Tryz.underlying22 Tryz.sizeOf5 rfl rfl ⟨_, _, rfl, rfl⟩ (by decide) (by decide) fun s123 hs123 => ?_)
  obtain ⟨A123, c123, rfl, _⟩ := id hs123
  have hs := hs.front 3 rfl (H' := [_, _, _, _, _, _]) rfl
  have hs := hs.front 3 rfl (H' := [_, _, _, _, _, _]) rfl
  have hs := hs.front 3 rfl (H' := [_, _, _, _, _, _]) rfl
  refine O_s (S_call (H1 := [_, _, _]) hs rfl Tryz.func42 rfl (by kernel_rfl) (on_ok (fr := 0) (to := 1) (by decide) rfl hsp hs123 (by decide)) fun v10 G' H' _ hR hG124 hs => ?_)
  obtain ⟨r1, rfl⟩ := hR
  replace hs : St _ _ [_, _, _, _, _, _, _] _ := hs
  replace ho1 := ho1.mono hG124
  replace ho2 := ho2.mono hG124
  replace hsp := hsp.mono hG124
  replace hvC := hvC.mono hG124
  replace hvF := hvF.mono hG124
  replace hs60 := hs60.mono hG124
  replace hr0 := hr0.mono hG124
  replace hs71 := hs71.mono hG124
  replace he0 := he0.mono hG124
  replace hs84 := hs84.mono hG124
  replace hrd := hrd.mono hG124
  replace hs109 := hs109.mono hG124
  replace hs123 := hs123.mono hG124
  obtain ⟨_, hG_hr1, hr1, hs⟩ := hs.fixRow noM
  replace ho1 := ho1.mono hG_hr1
  replace ho2 := ho2.mono hG_hr1
  replace hsp := hsp.mono hG_hr1
  replace hvC := hvC.mono hG_hr1
  replace hvF := hvF.mono hG_hr1
  replace hs60 := hs60.mono hG_hr1
  replace hr0 := hr0.mono hG_hr1
  replace hs71 := hs71.mono hG_hr1
  replace he0 := he0.mono hG_hr1
  replace hs84 := hs84.mono hG_hr1
  replace hrd := hrd.mono hG_hr1
  replace hs109 := hs109.mono hG_hr1
  replace hs123 := hs123.mono hG_hr1
  refine O_nil (T_sub [(1, _), (3, _), (5, _), (6, _), (7, _), (29, _), (30, _), (75, _), (76, _), (77, _)] ⟨rfl, rfl, rfl, rfl, rfl, rfl, rfl, rfl, rfl, rfl, trivial⟩ ?_)
  refine T_region rfl ?_
  refine O_y hs (Y_add (c := (1)) rfl rfl (by decide) (by decide) ?_)
  refine O_y hs (Y_move rfl ?_)
  refine O_nil ⟨[(1, _), (3, _), (5, _), (6, _), (7, _), (29, _), (30, _), (75, _), (76, _), (77, _)], ⟨rfl, rfl, rfl, rfl, rfl, rfl, rfl, rfl, rfl, rfl, trivial⟩, U_go ?_⟩
  refine T_seq (T_region rfl ?_)
  refine O_y hs (Y_cmpT rfl rfl rfl (by decide) ?_)
  refine O_nil (T_sub [(1, _), (3, _), (5, _), (6, _), (7, _), (29, _), (30, _), (75, _), (76, _), (77, _), (78, _)] ⟨rfl, rfl, rfl, rfl, rfl, rfl, rfl, rfl, rfl, rfl, rfl, trivial⟩ ?_)
  refine T_seq (T_condT rfl (T_skip ?_))
  refine T_seq (T_block (T_seq (T_region rfl ?_)))
  refine O_y hs (Y_idxB ho1 1 Tryz.underlying22 Tryz.sizeOf5 rfl rfl rfl (by decide) fun p79 hp79 => ?_)
  refine O_y hs (Y_ldG Tryz.isAgg5 rfl (hp79) ?_)
  refine O_y hs (Y_assign rfl ?_)
  refine O_nil (T_sub [(1, _), (3, _), (5, _), (6, _), (7, _), (11, _), (29, _), (30, _), (75, _), (76, _), (77, _)] ⟨rfl, rfl, rfl, rfl, rfl, rfl, rfl, rfl, rfl, rfl, rfl, trivial⟩ ?_)
  refine T_seq (T_region rfl ?_)
  refine O_y hs (Y_fieldAddr FO24_1 rfl (m := 1) rfl ?_)
  refine O_y hs (Y_ld 5 Tryz.isAgg22 rfl rfl rfl ?_)
  refine O_y hs (Y_move rfl ?_)
  refine O_y hs (Y_sliceB ho1 0 0 Tryz.underlying22 Tryz.sizeOf5 rfl rfl ⟨_, _, rfl, rfl⟩ (by decide) (by decide) fun s84 hs84 => ?_)
  obtain ⟨A84, c84, rfl, _⟩ := id hs84
  refine O_s (S_call (H1 := []) hs rfl Tryz.func35 rfl (by kernel_rfl) (clone_own hs84 (by decide)) fun v11 G' H' _ hR hG85 hs => ?_)
  obtain rfl := hR
  replace hs : St _ _ [_, _, _, _, _, _, _] _ := hs
  replace ho1 := ho1.mono hG85
  replace ho2 := ho2.mono hG85
  replace hsp := hsp.mono hG85
  replace hvC := hvC.mono hG85
  replace hvF := hvF.mono hG85
  replace hs60 := hs60.mono hG85
  replace hr0 := hr0.mono hG85
  replace hs71 := hs71.mono hG85
  replace he0 := he0.mono hG85
  replace hs84 := hs84.mono hG85
  replace hrd := hrd.mono hG85
  replace hs109 := hs109.mono hG85
  replace hs123 := hs123.mono hG85
  replace hr1 := hr1.mono hG85
  refine O_y hs (Y_move rfl ?_)
  refine O_s (S_lit hs Tryz.underlying22 Tryz.sizeOf5 Tryz.zeroValue5 rfl rfl (by decide) (by decide) rfl (cs := [_]) rfl rfl fun v12 _ hs _ => ?_)
  obtain ⟨_, hG87, hl87, hs⟩ := hs.fixRow noM
  replace ho1 := ho1.mono hG87
  replace ho2 := ho2.mono hG87
  replace hsp := hsp.mono hG87
  replace hvC := hvC.mono hG87
  replace hvF := hvF.mono hG87
  replace hs60 := hs60.mono hG87
  replace hr0 := hr0.mono hG87
  replace hs71 := hs71.mono hG87
  replace he0 := he0.mono hG87
  replace hs84 := hs84.mono hG87
  replace hrd := hrd.mono hG87
  replace hs109 := hs109.mono hG87
  replace hs123 := hs123.mono hG87
  replace hr1 := hr1.mono hG87
  refine O_s (S_append hs Tryz.underlying22 TI5 rfl (by decide) rfl rfl (hl87) (one1 rfl) (by decide) (by decide) fun v13 _ hs => ?_)
  refine O_y hs (Y_assign rfl ?_)
  refine O_nil (T_sub [(1, _), (3, _), (5, _), (6, _), (7, _), (11, _), (12, _), (29, _), (30, _), (75, _), (76, _), (77, _)] ⟨rfl, rfl, rfl, rfl, rfl, rfl, rfl, rfl, rfl, rfl, rfl, rfl, trivial⟩ ?_)
  obtain ⟨Ard, crd, rfl⟩ := hs.rowSl 0 rfl
  obtain ⟨_, hG_hrd, hrd, hs⟩ := hs.fixRow noM
  replace ho1 := ho1.mono hG_hrd
  replace ho2 := ho2.mono hG_hrd
  replace hsp := hsp.mono hG_hrd
  replace hvC := hvC.mono hG_hrd
  replace hvF := hvF.mono hG_hrd
  replace hs60 := hs60.mono hG_hrd
  replace hr0 := hr0.mono hG_hrd
  replace hs71 := hs71.mono hG_hrd
  replace he0 := he0.mono hG_hrd
  replace hs84 := hs84.mono hG_hrd
  replace hs109 := hs109.mono hG_hrd
  replace hs123 := hs123.mono hG_hrd
  replace hr1 := hr1.mono hG_hrd
  replace hrd : Bytes _ (.slice Ard 1 crd) [97] := Bytes.ofSl hrd rfl rfl
  refine T_seq (T_seq (T_region rfl ?_))
  refine O_y hs (Y_move rfl ?_)
  refine O_y hs (Y_fieldAddr FO24_1 rfl (m := 1) rfl ?_)
  refine O_y hs (Y_ld 5 Tryz.isAgg22 rfl rfl rfl ?_)
  refine O_s (S_call (H1 := []) hs rfl Tryz.func74 rfl (by kernel_rfl) (equal_ok hrd ho1) fun v14 G' H' _ hR hG92 hs => ?_)
  obtain ⟨rfl, rfl⟩ := hR
  replace hs : St _ _ [_, _, _, _, _, _] _ := hs
  replace ho1 := ho1.mono hG92
  replace ho2 := ho2.mono hG92
  replace hsp := hsp.mono hG92
  replace hvC := hvC.mono hG92
  replace hvF := hvF.mono hG92
  replace hs60 := hs60.mono hG92
  replace hr0 := hr0.mono hG92
  replace hs71 := hs71.mono hG92
  replace he0 := he0.mono hG92
  replace hs84 := hs84.mono hG92
  replace hs109 := hs109.mono hG92
  replace hs123 := hs123.mono hG92
  replace hr1 := hr1.mono hG92
  replace hrd := hrd.mono hG92
  rw [show decide (([97] : List UInt8) = [97, 97]) = false by decide]
  refine O_nil (T_sub [(1, _), (3, _), (5, _), (6, _), (7, _), (11, _), (12, _), (29, _), (30, _), (75, _), (76, _), (77, _), (92, _)] ⟨rfl, rfl, rfl, rfl, rfl, rfl, rfl, rfl, rfl, rfl, rfl, rfl, rfl, trivial⟩ ?_)
  refine T_condF rfl (T_skip ?_)
  refine T_seq (T_region rfl ?_)
  refine O_y hs (Y_move rfl ?_)
  refine O_y hs (Y_len Tryz.underlying22 rfl ?_)
  refine O_y hs (Y_assign rfl ?_)
  refine O_nil (T_sub [(1, _), (3, _), (5, _), (6, _), (7, _), (11, _), (12, _), (13, _), (29, _), (30, _), (75, _), (76, _), (77, _)] ⟨rfl, rfl, rfl, rfl, rfl, rfl, rfl, rfl, rfl, rfl, rfl, rfl, rfl, trivial⟩ ?_)
  refine T_seq (T_block (T_loopN 1 (L := [(1, _), (3, _), (5, _), (6, _), (7, _), (11, _), (12, _), (13, _), (29, _), (30, _), (75, _), (76, _), (77, _)]) ⟨rfl, rfl, rfl, rfl, rfl, rfl, rfl, rfl, rfl, rfl, rfl, rfl, rfl, trivial⟩ (U_go ?_)))
  refine T_seq (T_seq (T_drawS [0, 1, 2, 3, 4, 5, 6, 7, 8, 9] hs (by kernel_rfl) ?_))
  replace hs := hs.drew
  refine A_take 0 rfl (by kernel_rfl) rfl hs (Y_fieldAddr FO24_1 rfl (m := 1) rfl ?_)
  refine A_take 1 rfl (by kernel_rfl) rfl hs (Y_ld 5 Tryz.isAgg22 rfl rfl rfl ?_)
  refine A_take 2 rfl (by kernel_rfl) rfl hs (Y_move rfl ?_)
  refine A_take 3 rfl (by kernel_rfl) rfl hs (Y_move rfl ?_)
  refine A_take 4 rfl (by kernel_rfl) rfl hs (Y_len Tryz.underlying22 rfl ?_)
  refine A_take 5 rfl (by kernel_rfl) rfl hs (Y_move rfl ?_)
  refine A_take 6 rfl (by kernel_rfl) rfl hs (Y_sub (c := (0)) rfl rfl (by decide) (by decide) ?_)
  refine A_take 7 rfl (by kernel_rfl) rfl hs (Y_sliceB hrd 0 1 Tryz.underlying22 Tryz.sizeOf5 rfl ⟨_, _, rfl, rfl⟩ rfl (by decide) (by decide) fun s109 hs109 => ?_)
  obtain ⟨A109, c109, rfl, _⟩ := id hs109
  have hle := hs.le
  refine A_only 8 rfl (by kernel_rfl) rfl (S_call (H1 := []) hs rfl Tryz.func75 rfl (by kernel_rfl) (hasp_ok ho1 hs109) fun v15 G' H' _ hR hG110 hs => ?_)
  obtain ⟨rfl, rfl⟩ := hR
  replace hs : St _ _ [_, _, _, _, _, _] _ := hs
  replace ho1 := ho1.mono hG110
  replace ho2 := ho2.mono hG110
  replace hsp := hsp.mono hG110
  replace hvC := hvC.mono hG110
  replace hvF := hvF.mono hG110
  replace hs60 := hs60.mono hG110
  replace hr0 := hr0.mono hG110
  replace hs71 := hs71.mono hG110
  replace he0 := he0.mono hG110
  replace hs84 := hs84.mono hG110
  replace hs109 := hs109.mono hG110
  replace hs123 := hs123.mono hG110
  replace hr1 := hr1.mono hG110
  replace hrd := hrd.mono hG110
  rw [show List.isPrefixOf (List.take (1 - 0) (List.drop 0 [97])) ([97, 97] : List UInt8) = true by decide]
  refine A_moreS hs hle hG110 (List.Sublist.refl _) ?_
  refine A_take 9 rfl (by kernel_rfl) rfl hs (Y_not rfl ?_)
  refine A_done (by kernel_rfl) (T_sub [(1, _), (3, _), (5, _), (6, _), (7, _), (11, _), (12, _), (13, _), (29, _), (30, _), (75, _), (76, _), (77, _), (111, _)] ⟨rfl, rfl, rfl, rfl, rfl, rfl, rfl, rfl, rfl, rfl, rfl, rfl, rfl, rfl, trivial⟩ ?_)
  refine T_condF rfl (T_exit ?_)
  refine T_region rfl ?_
  refine O_y hs (Y_move rfl ?_)
  refine O_y hs (Y_move rfl ?_)
  refine O_y hs (Y_move rfl ?_)
  refine O_y hs (Y_move rfl ?_)
  refine O_y hs (Y_move rfl ?_)
  refine O_y hs (Y_move rfl ?_)
  refine O_y hs (Y_len Tryz.underlying22 rfl ?_)
  refine O_y hs (Y_move rfl ?_)
  refine O_y hs (Y_sub (c := (0)) rfl rfl (by decide) (by decide) ?_)
  refine O_y hs (Y_sliceB hrd 0 0 Tryz.underlying22 Tryz.sizeOf5 rfl rfl ⟨_, _, rfl, rfl⟩ (by decide) (by decide) fun s123 hs123 => ?_)
  obtain ⟨A123, c123, rfl, _⟩ := id hs123
  have hs := hs.front 2 rfl (H' := [_, _, _, _, _, _]) rfl
  have hs := hs.front 2 rfl (H' := [_, _, _, _, _, _]) rfl
  have hs := hs.front 2 rfl (H' := [_, _, _, _, _, _]) rfl
  refine O_s (S_call (H1 := [_, _, _]) hs rfl Tryz.func42 rfl (by kernel_rfl) (on_ok (fr := 0) (to := 1) (by decide) rfl hsp hs123 (by decide)) fun v16 G' H' _ hR hG124 hs => ?_)
  obtain ⟨r2, rfl⟩ := hR
  replace hs : St _ _ [_, _, _, _, _, _, _] _ := hs
  replace ho1 := ho1.mono hG124
  replace ho2 := ho2.mono hG124
  replace hsp := hsp.mono hG124
  replace hvC := hvC.mono hG124
  replace hvF := hvF.mono hG124
  replace hs60 := hs60.mono hG124
  replace hr0 := hr0.mono hG124
  replace hs71 := hs71.mono hG124
  replace he0 := he0.mono hG124
  replace hs84 := hs84.mono hG124
  replace hs109 := hs109.mono hG124
  replace hs123 := hs123.mono hG124
  replace hr1 := hr1.mono hG124
  replace hrd := hrd.mono hG124
  obtain ⟨_, hG_hr2, hr2, hs⟩ := hs.fixRow noM
  replace ho1 := ho1.mono hG_hr2
  replace ho2 := ho2.mono hG_hr2
  replace hsp := hsp.mono hG_hr2
  replace hvC := hvC.mono hG_hr2
  replace hvF := hvF.mono hG_hr2
  replace hs60 := hs60.mono hG_hr2
  replace hr0 := hr0.mono hG_hr2
  replace hs71 := hs71.mono hG_hr2
  replace he0 := he0.mono hG_hr2
  replace hs84 := hs84.mono hG_hr2
  replace hs109 := hs109.mono hG_hr2
  replace hs123 := hs123.mono hG_hr2
  replace hr1 := hr1.mono hG_hr2
  replace hrd := hrd.mono hG_hr2
  refine O_nil (T_sub [(1, _), (3, _), (5, _), (6, _), (7, _), (29, _), (30, _), (75, _), (76, _), (77, _)] ⟨rfl, rfl, rfl, rfl, rfl, rfl, rfl, rfl, rfl, rfl, trivial⟩ ?_)
  refine T_region rfl ?_
  refine O_y hs (Y_add (c := (2)) rfl rfl (by decide) (by decide) ?_)
  refine O_y hs (Y_move rfl ?_)
  refine O_nil ⟨[(1, _), (3, _), (5, _), (6, _), (7, _), (29, _), (30, _), (75, _), (76, _), (77, _)], ⟨rfl, rfl, rfl, rfl, rfl, rfl, rfl, rfl, rfl, rfl, trivial⟩, U_go ?_⟩
  refine T_seq (T_region rfl ?_)
  refine O_y hs (Y_cmpF rfl rfl rfl (by decide) ?_)
  refine O_nil (T_sub [(1, _), (3, _), (5, _), (6, _), (7, _), (29, _), (30, _), (75, _), (76, _), (77, _), (78, _)] ⟨rfl, rfl, rfl, rfl, rfl, rfl, rfl, rfl, rfl, rfl, rfl, trivial⟩ ?_)
  refine T_seq (T_condF rfl (T_exit ?_))
  refine T_region rfl ?_
  refine O_y hs (Y_add (c := (1)) rfl rfl (by decide) (by decide) ?_)
  refine O_y hs (Y_move rfl ?_)
  refine O_nil ⟨[(1, _), (3, _), (5, _), (6, _), (29, _), (30, _)], ⟨rfl, rfl, rfl, rfl, rfl, rfl, trivial⟩, U_go ?_⟩
  refine T_seq (T_region rfl ?_)
  refine O_y hs (Y_cmpT rfl rfl rfl (by decide) ?_)
  refine O_nil (T_sub [(1, _), (3, _), (5, _), (6, _), (29, _), (30, _), (31, _)] ⟨rfl, rfl, rfl, rfl, rfl, rfl, rfl, trivial⟩ ?_)
  refine T_seq (T_condT rfl (T_skip ?_))
  refine T_seq (T_block (T_seq (T_region rfl ?_)))
  refine O_y hs (Y_move rfl ?_)
  refine O_y hs (Y_assign rfl ?_)
  refine O_nil (T_sub [(1, _), (3, _), (5, _), (6, _), (7, _), (29, _), (30, _)] ⟨rfl, rfl, rfl, rfl, rfl, rfl, rfl, trivial⟩ ?_)
  refine T_seq (T_seq (T_region rfl ?_))
  refine O_y hs (Y_move rfl ?_)
  refine O_y hs (Y_move rfl ?_)
  refine O_y hs (Y_cmpF rfl rfl rfl (by decide) ?_)
  refine O_nil (T_sub [(1, _), (3, _), (5, _), (6, _), (7, _), (29, _), (30, _), (35, _)] ⟨rfl, rfl, rfl, rfl, rfl, rfl, rfl, rfl, trivial⟩ ?_)
  refine T_condF rfl (T_skip ?_)
  refine T_seq (T_region rfl ?_)
  refine O_y hs (Y_move rfl ?_)
  refine O_y hs (Y_move rfl ?_)
  refine O_y hs (Y_fieldAddr FO24_1 rfl (m := 1) rfl ?_)
  refine O_y hs (Y_ld 5 Tryz.isAgg22 rfl rfl rfl ?_)
  refine O_y hs (Y_move rfl ?_)
  refine O_y hs (Y_sliceB ho1 0 1 Tryz.underlying22 Tryz.sizeOf5 rfl rfl ⟨_, _, rfl, rfl⟩ (by decide) (by decide) fun s60 hs60 => ?_)
  obtain ⟨A60, c60, rfl, _⟩ := id hs60
  have hs := hs.front 2 rfl (H' := [_, _, _, _, _, _]) rfl
  have hs := hs.front 2 rfl (H' := [_, _, _, _, _, _]) rfl
  have hs := hs.front 4 rfl (H' := [_, _, _, _, _, _]) rfl
  refine O_s (S_call (H1 := [_, _, _]) hs rfl Tryz.func41 rfl (by kernel_rfl) (other_ok (fr := 1) (by decide) rfl hs60 (by decide)) fun v17 G' H' _ hR hG61 hs => ?_)
  obtain ⟨r3, rfl⟩ := hR
  replace hs : St _ _ [_, _, _, _, _, _, _] _ := hs
  replace ho1 := ho1.mono hG61
  replace ho2 := ho2.mono hG61
  replace hsp := hsp.mono hG61
  replace hvC := hvC.mono hG61
  replace hvF := hvF.mono hG61
  replace hs60 := hs60.mono hG61
  replace hr0 := hr0.mono hG61
  replace hs71 := hs71.mono hG61
  replace he0 := he0.mono hG61
  replace hs84 := hs84.mono hG61
  replace hs109 := hs109.mono hG61
  replace hs123 := hs123.mono hG61
  replace hr1 := hr1.mono hG61
  replace hrd := hrd.mono hG61
  replace hr2 := hr2.mono hG61
  obtain ⟨_, hG_hr3, hr3, hs⟩ := hs.fixRow noM
  replace ho1 := ho1.mono hG_hr3
  replace ho2 := ho2.mono hG_hr3
  replace hsp := hsp.mono hG_hr3
  replace hvC := hvC.mono hG_hr3
  replace hvF := hvF.mono hG_hr3
  replace hs60 := hs60.mono hG_hr3
  replace hr0 := hr0.mono hG_hr3
  replace hs71 := hs71.mono hG_hr3
  replace he0 := he0.mono hG_hr3
  replace hs84 := hs84.mono hG_hr3
  replace hs109 := hs109.mono hG_hr3
  replace hs123 := hs123.mono hG_hr3
  replace hr1 := hr1.mono hG_hr3
  replace hrd := hrd.mono hG_hr3
  replace hr2 := hr2.mono hG_hr3
  refine O_nil (T_sub [(1, _), (3, _), (5, _), (6, _), (7, _), (29, _), (30, _)] ⟨rfl, rfl, rfl, rfl, rfl, rfl, rfl, trivial⟩ ?_)
  refine T_seq (T_drawS [0, 1, 2, 3, 4, 5, 6, 7, 8, 9, 10, 11] hs (by kernel_rfl) ?_)
  replace hs := hs.drew
  refine A_take 0 rfl (by kernel_rfl) rfl hs (Y_move rfl ?_)
  refine A_take 1 rfl (by kernel_rfl) rfl hs (Y_nil rfl ?_)
  refine A_take 2 rfl (by kernel_rfl) rfl hs (Y_fieldAddr FO77_1 rfl (m := 1) rfl ?_)
  refine A_take 3 rfl (by kernel_rfl) rfl hs (Y_fieldAddr FO43_3 rfl (m := 4) rfl ?_)
  refine A_take 4 rfl (by kernel_rfl) rfl hs (Y_ld 2 Tryz.isAgg41 rfl rfl rfl ?_)
  refine A_take 5 rfl (by kernel_rfl) rfl hs (Y_move rfl ?_)
  refine A_take 6 rfl (by kernel_rfl) rfl hs (Y_fieldAddr FO24_1 rfl (m := 1) rfl ?_)
  refine A_take 7 rfl (by kernel_rfl) rfl hs (Y_ld 5 Tryz.isAgg22 rfl rfl rfl ?_)
  refine A_take 8 rfl (by kernel_rfl) rfl hs (Y_move rfl ?_)
  refine A_take 9 rfl (by kernel_rfl) rfl hs (Y_sliceB ho1 0 1 Tryz.underlying22 Tryz.sizeOf5 rfl rfl ⟨_, _, rfl, rfl⟩ (by decide) (by decide) fun s71 hs71 => ?_)
  obtain ⟨A71, c71, rfl, _⟩ := id hs71
  have hle := hs.le
  refine A_only 10 rfl (by kernel_rfl) rfl (S_call (H1 := []) hs rfl Tryz.func35 rfl (by kernel_rfl) (clone_ok hs71 (by decide)) fun v18 G' H' _ hR hG72 hs => ?_)
  obtain ⟨rfl, he1⟩ := hR
  obtain ⟨A72, c72, rfl, _⟩ := id he1
  replace hs : St _ _ [_, _, _, _, _, _] _ := hs
  replace ho1 := ho1.mono hG72
  replace ho2 := ho2.mono hG72
  replace hsp := hsp.mono hG72
  replace hvC := hvC.mono hG72
  replace hvF := hvF.mono hG72
  replace hs60 := hs60.mono hG72
  replace hr0 := hr0.mono hG72
  replace hs71 := hs71.mono hG72
  replace he0 := he0.mono hG72
  replace hs84 := hs84.mono hG72
  replace hs109 := hs109.mono hG72
  replace hs123 := hs123.mono hG72
  replace hr1 := hr1.mono hG72
  replace hrd := hrd.mono hG72
  replace hr2 := hr2.mono hG72
  replace hr3 := hr3.mono hG72
  refine A_moreS hs hle hG72 (List.Sublist.refl _) ?_
  refine A_take 11 rfl (by kernel_rfl) rfl hs (Y_idxRow (1) Tryz.underlying41 Tryz.sizeOf22 rfl rfl rfl (by decide) ?_)
  have hs := hs.front 4 rfl (H' := [_, _, _, _, _, _]) rfl
  refine A_tailN 12 rfl (by kernel_rfl) (by kernel_rfl) rfl (S_stRow hs Tryz.sizeOf22 rfl rfl rfl (by omega) fun _ hs => ?_)
  refine A_done (by kernel_rfl) (T_sub [(1, _), (3, _), (5, _), (6, _), (7, _), (29, _), (30, _)] ⟨rfl, rfl, rfl, rfl, rfl, rfl, rfl, trivial⟩ ?_)
  refine T_seq (T_region rfl ?_)
  refine O_y hs (Y_fieldAddr FO24_1 rfl (m := 1) rfl ?_)
  refine O_y hs (Y_ld 5 Tryz.isAgg22 rfl rfl rfl ?_)
  refine O_y hs (Y_len Tryz.underlying22 rfl ?_)
  refine O_y hs (Y_move rfl ?_)
  refine O_nil (T_sub [(1, _), (3, _), (5, _), (6, _), (7, _), (29, _), (30, _), (75, _), (76, _), (77, _)] ⟨rfl, rfl, rfl, rfl, rfl, rfl, rfl, rfl, rfl, rfl, trivial⟩ ?_)
  refine T_block (T_loopN 3 (L := [(1, _), (3, _), (5, _), (6, _), (7, _), (29, _), (30, _), (75, _), (76, _), (77, _)]) ⟨rfl, rfl, rfl, rfl, rfl, rfl, rfl, rfl, rfl, rfl, trivial⟩ (U_go ?_))
  refine T_seq (T_region rfl ?_)
  refine O_y hs (Y_cmpT rfl rfl rfl (by decide) ?_)
  refine O_nil (T_sub [(1, _), (3, _), (5, _), (6, _), (7, _), (29, _), (30, _), (75, _), (76, _), (77, _), (78, _)] ⟨rfl, rfl, rfl, rfl, rfl, rfl, rfl, rfl, rfl, rfl, rfl, trivial⟩ ?_)
  refine T_seq (T_condT rfl (T_skip ?_))
  refine T_seq (T_block (T_seq (T_region rfl ?_)))
  refine O_y hs (Y_idxB ho1 0 Tryz.underlying22 Tryz.sizeOf5 rfl rfl rfl (by decide) fun p79 hp79 => ?_)
  refine O_y hs (Y_ldG Tryz.isAgg5 rfl (hp79) ?_)
  refine O_y hs (Y_assign rfl ?_)
  refine O_nil (T_sub [(1, _), (3, _), (5, _), (6, _), (7, _), (11, _), (29, _), (30, _), (75, _), (76, _), (77, _)] ⟨rfl, rfl, rfl, rfl, rfl, rfl, rfl, rfl, rfl, rfl, rfl, trivial⟩ ?_)
  refine T_seq (T_region rfl ?_)
  refine O_y hs (Y_fieldAddr FO24_1 rfl (m := 1) rfl ?_)
  refine O_y hs (Y_ld 5 Tryz.isAgg22 rfl rfl rfl ?_)
  refine O_y hs (Y_move rfl ?_)
  refine O_y hs (Y_sliceB ho1 0 1 Tryz.underlying22 Tryz.sizeOf5 rfl rfl ⟨_, _, rfl, rfl⟩ (by decide) (by decide) fun s84 hs84 => ?_)
  obtain ⟨A84, c84, rfl, _⟩ := id hs84
  refine O_s (S_call (H1 := []) hs rfl Tryz.func35 rfl (by kernel_rfl) (clone_own hs84 (by decide)) fun v19 G' H' _ hR hG85 hs => ?_)
  obtain rfl := hR
  replace hs : St _ _ [_, _, _, _, _, _, _] _ := hs
  replace ho1 := ho1.mono hG85
  replace ho2 := ho2.mono hG85
  replace hsp := hsp.mono hG85
  replace hvC := hvC.mono hG85
  replace hvF := hvF.mono hG85
  replace hs60 := hs60.mono hG85
  replace hr0 := hr0.mono hG85
  replace hs71 := hs71.mono hG85
  replace he0 := he0.mono hG85
  replace hs84 := hs84.mono hG85
  replace hs109 := hs109.mono hG85
  replace hs123 := hs123.mono hG85
  replace hr1 := hr1.mono hG85
  replace hrd := hrd.mono hG85
  replace hr2 := hr2.mono hG85
  replace hr3 := hr3.mono hG85
  replace he1 := he1.mono hG85
  refine O_y hs (Y_move rfl ?_)
  refine O_s (S_lit hs Tryz.underlying22 Tryz.sizeOf5 Tryz.zeroValue5 rfl rfl (by decide) (by decide) rfl (cs := [_]) rfl rfl fun v20 _ hs _ => ?_)
  obtain ⟨_, hG87, hl87, hs⟩ := hs.fixRow noM
  replace ho1 := ho1.mono hG87
  replace ho2 := ho2.mono hG87
  replace hsp := hsp.mono hG87
  replace hvC := hvC.mono hG87
  replace hvF := hvF.mono hG87
  replace hs60 := hs60.mono hG87
  replace hr0 := hr0.mono hG87
  replace hs71 := hs71.mono hG87
  replace he0 := he0.mono hG87
  replace hs84 := hs84.mono hG87
  replace hs109 := hs109.mono hG87
  replace hs123 := hs123.mono hG87
  replace hr1 := hr1.mono hG87
  replace hrd := hrd.mono hG87
  replace hr2 := hr2.mono hG87
  replace hr3 := hr3.mono hG87
  replace he1 := he1.mono hG87
  refine O_s (S_append hs Tryz.underlying22 TI5 rfl (by decide) rfl rfl (hl87) (one1 rfl) (by decide) (by decide) fun v21 _ hs => ?_)
  refine O_y hs (Y_assign rfl ?_)
  refine O_nil (T_sub [(1, _), (3, _), (5, _), (6, _), (7, _), (11, _), (12, _), (29, _), (30, _), (75, _), (76, _), (77, _)] ⟨rfl, rfl, rfl, rfl, rfl, rfl, rfl, rfl, rfl, rfl, rfl, rfl, trivial⟩ ?_)
  obtain ⟨Ard, crd, rfl⟩ := hs.rowSl 0 rfl
  obtain ⟨_, hG_hrd, hrd, hs⟩ := hs.fixRow noM
  replace ho1 := ho1.mono hG_hrd
  replace ho2 := ho2.mono hG_hrd
  replace hsp := hsp.mono hG_hrd
  replace hvC := hvC.mono hG_hrd
  replace hvF := hvF.mono hG_hrd
  replace hs60 := hs60.mono hG_hrd
  replace hr0 := hr0.mono hG_hrd
  replace hs71 := hs71.mono hG_hrd
  replace he0 := he0.mono hG_hrd
  replace hs84 := hs84.mono hG_hrd
  replace hs109 := hs109.mono hG_hrd
  replace hs123 := hs123.mono hG_hrd
  replace hr1 := hr1.mono hG_hrd
  replace hr2 := hr2.mono hG_hrd
  replace hr3 := hr3.mono hG_hrd
  replace he1 := he1.mono hG_hrd
  replace hrd : Bytes _ (.slice Ard 2 crd) [97, 97] := Bytes.ofSl hrd rfl rfl
  refine T_seq (T_seq (T_region rfl ?_))
  refine O_y hs (Y_move rfl ?_)
  refine O_y hs (Y_fieldAddr FO24_1 rfl (m := 1) rfl ?_)
  refine O_y hs (Y_ld 5 Tryz.isAgg22 rfl rfl rfl ?_)
  refine O_s (S_call (H1 := []) hs rfl Tryz.func74 rfl (by kernel_rfl) (equal_ok hrd ho1) fun v22 G' H' _ hR hG92 hs => ?_)
  obtain ⟨rfl, rfl⟩ := hR
  replace hs : St _ _ [_, _, _, _, _, _] _ := hs
  replace ho1 := ho1.mono hG92
  replace ho2 := ho2.mono hG92
  replace hsp := hsp.mono hG92
  replace hvC := hvC.mono hG92
  replace hvF := hvF.mono hG92
  replace hs60 := hs60.mono hG92
  replace hr0 := hr0.mono hG92
  replace hs71 := hs71.mono hG92
  replace he0 := he0.mono hG92
  replace hs84 := hs84.mono hG92
  replace hs109 := hs109.mono hG92
  replace hs123 := hs123.mono hG92
  replace hr1 := hr1.mono hG92
  replace hr2 := hr2.mono hG92
  replace hr3 := hr3.mono hG92
  replace he1 := he1.mono hG92
  replace hrd := hrd.mono hG92
  rw [show decide (([97, 97] : List UInt8) = [97, 97]) = true by decide]
  refine O_nil (T_sub [(1, _), (3, _), (5, _), (6, _), (7, _), (11, _), (12, _), (29, _), (30, _), (75, _), (76, _), (77, _), (92, _)] ⟨rfl, rfl, rfl, rfl, rfl, rfl, rfl, rfl, rfl, rfl, rfl, rfl, rfl, trivial⟩ ?_)
  refine T_condT rfl (T_seq (T_region rfl ?_))
  refine O_y hs (Y_move rfl ?_)
  refine O_y hs (Y_move rfl ?_)
  refine O_y hs (Y_move rfl ?_)
  refine O_y hs (Y_move rfl ?_)
  refine O_y hs (Y_fieldAddr FO24_2 rfl (m := 2) rfl ?_)
  refine O_y hs (Y_ld 5 Tryz.isAgg22 rfl rfl rfl ?_)
  have hs := hs.front 3 rfl (H' := [_, _, _, _, _, _]) rfl
  have hs := hs.front 3 rfl (H' := [_, _, _, _, _, _]) rfl
  have hs := hs.front 3 rfl (H' := [_, _, _, _, _, _]) rfl
  refine O_s (S_call (H1 := [_, _, _]) hs rfl Tryz.func42 rfl (by kernel_rfl) (on_ok (fr := 1) (to := 0) (by decide) rfl hsp ho2 (by decide)) fun v23 G' H' _ hR hG99 hs => ?_)
  obtain ⟨r4, rfl⟩ := hR
  replace hs : St _ _ [_, _, _, _, _, _, _] _ := hs
  replace ho1 := ho1.mono hG99
  replace ho2 := ho2.mono hG99
  replace hsp := hsp.mono hG99
  replace hvC := hvC.mono hG99
  replace hvF := hvF.mono hG99
  replace hs60 := hs60.mono hG99
  replace hr0 := hr0.mono hG99
  replace hs71 := hs71.mono hG99
  replace he0 := he0.mono hG99
  replace hs84 := hs84.mono hG99
  replace hs109 := hs109.mono hG99
  replace hs123 := hs123.mono hG99
  replace hr1 := hr1.mono hG99
  replace hr2 := hr2.mono hG99
  replace hr3 := hr3.mono hG99
  replace he1 := he1.mono hG99
  replace hrd := hrd.mono hG99
  obtain ⟨_, hG_hr4, hr4, hs⟩ := hs.fixRow noM
  replace ho1 := ho1.mono hG_hr4
  replace ho2 := ho2.mono hG_hr4
  replace hsp := hsp.mono hG_hr4
  replace hvC := hvC.mono hG_hr4
  replace hvF := hvF.mono hG_hr4
  replace hs60 := hs60.mono hG_hr4
  replace hr0 := hr0.mono hG_hr4
  replace hs71 := hs71.mono hG_hr4
  replace he0 := he0.mono hG_hr4
  replace hs84 := hs84.mono hG_hr4
  replace hs109 := hs109.mono hG_hr4
  replace hs123 := hs123.mono hG_hr4
  replace hr1 := hr1.mono hG_hr4
  replace hr2 := hr2.mono hG_hr4
  replace hr3 := hr3.mono hG_hr4
  replace he1 := he1.mono hG_hr4
  replace hrd := hrd.mono hG_hr4
  refine O_nil (T_sub [(1, _), (3, _), (5, _), (6, _), (7, _), (29, _), (30, _), (75, _), (76, _), (77, _)] ⟨rfl, rfl, rfl, rfl, rfl, rfl, rfl, rfl, rfl, rfl, trivial⟩ ?_)
  refine T_exit ?_
  refine T_region rfl ?_
  refine O_y hs (Y_add (c := (1)) rfl rfl (by decide) (by decide) ?_)
  refine O_y hs (Y_move rfl ?_)
  refine O_nil ⟨[(1, _), (3, _), (5, _), (6, _), (7, _), (29, _), (30, _), (75, _), (76, _), (77, _)], ⟨rfl, rfl, rfl, rfl, rfl, rfl, rfl, rfl, rfl, rfl, trivial⟩, U_go ?_⟩
  refine T_seq (T_region rfl ?_)
  refine O_y hs (Y_cmpT rfl rfl rfl (by decide) ?_)
  refine O_nil (T_sub [(1, _), (3, _), (5, _), (6, _), (7, _), (29, _), (30, _), (75, _), (76, _), (77, _), (78, _)] ⟨rfl, rfl, rfl, rfl, rfl, rfl, rfl, rfl, rfl, rfl, rfl, trivial⟩ ?_)
  refine T_seq (T_condT rfl (T_skip ?_))
  refine T_seq (T_block (T_seq (T_region rfl ?_)))
  refine O_y hs (Y_idxB ho1 1 Tryz.underlying22 Tryz.sizeOf5 rfl rfl rfl (by decide) fun p79 hp79 => ?_)
  refine O_y hs (Y_ldG Tryz.isAgg5 rfl (hp79) ?_)
  refine O_y hs (Y_assign rfl ?_)
  refine O_nil (T_sub [(1, _), (3, _), (5, _), (6, _), (7, _), (11, _), (29, _), (30, _), (75, _), (76, _), (77, _)] ⟨rfl, rfl, rfl, rfl, rfl, rfl, rfl, rfl, rfl, rfl, rfl, trivial⟩ ?_)
  refine T_seq (T_region rfl ?_)
  refine O_y hs (Y_fieldAddr FO24_1 rfl (m := 1) rfl ?_)
  refine O_y hs (Y_ld 5 Tryz.isAgg22 rfl rfl rfl ?_)
  refine O_y hs (Y_move rfl ?_)
  refine O_y hs (Y_sliceB ho1 0 1 Tryz.underlying22 Tryz.sizeOf5 rfl rfl ⟨_, _, rfl, rfl⟩ (by decide) (by decide) fun s84 hs84 => ?_)
  obtain ⟨A84, c84, rfl, _⟩ := id hs84
  refine O_s (S_call (H1 := []) hs rfl Tryz.func35 rfl (by kernel_rfl) (clone_own hs84 (by decide)) fun v24 G' H' _ hR hG85 hs => ?_)
  obtain rfl := hR
  replace hs : St _ _ [_, _, _, _, _, _, _] _ := hs
  replace ho1 := ho1.mono hG85
  replace ho2 := ho2.mono hG85
  replace hsp := hsp.mono hG85
  replace hvC := hvC.mono hG85
  replace hvF := hvF.mono hG85
  replace hs60 := hs60.mono hG85
  replace hr0 := hr0.mono hG85
  replace hs71 := hs71.mono hG85
  replace he0 := he0.mono hG85
  replace hs84 := hs84.mono hG85
  replace hs109 := hs109.mono hG85
  replace hs123 := hs123.mono hG85
  replace hr1 := hr1.mono hG85
  replace hr2 := hr2.mono hG85
  replace hr3 := hr3.mono hG85
  replace he1 := he1.mono hG85
  replace hrd := hrd.mono hG85
  replace hr4 := hr4.mono hG85
  refine O_y hs (Y_move rfl ?_)
  refine O_s (S_lit hs Tryz.underlying22 Tryz.sizeOf5 Tryz.zeroValue5 rfl rfl (by decide) (by decide) rfl (cs := [_]) rfl rfl fun v25 _ hs _ => ?_)
  obtain ⟨_, hG87, hl87, hs⟩ := hs.fixRow noM
  replace ho1 := ho1.mono hG87
  replace ho2 := ho2.mono hG87
  replace hsp := hsp.mono hG87
  replace hvC := hvC.mono hG87
  replace hvF := hvF.mono hG87
  replace hs60 := hs60.mono hG87
  replace hr0 := hr0.mono hG87
  replace hs71 := hs71.mono hG87
  replace he0 := he0.mono hG87
  replace hs84 := hs84.mono hG87
  replace hs109 := hs109.mono hG87
  replace hs123 := hs123.mono hG87
  replace hr1 := hr1.mono hG87
  replace hr2 := hr2.mono hG87
  replace hr3 := hr3.mono hG87
  replace he1 := he1.mono hG87
  replace hrd := hrd.mono hG87
  replace hr4 := hr4.mono hG87
  refine O_s (S_append hs Tryz.underlying22 TI5 rfl (by decide) rfl rfl (hl87) (one1 rfl) (by decide) (by decide) fun v26 _ hs => ?_)
  refine O_y hs (Y_assign rfl ?_)
  refine O_nil (T_sub [(1, _), (3, _), (5, _), (6, _), (7, _), (11, _), (12, _), (29, _), (30, _), (75, _), (76, _), (77, _)] ⟨rfl, rfl, rfl, rfl, rfl, rfl, rfl, rfl, rfl, rfl, rfl, rfl, trivial⟩ ?_)
  obtain ⟨Ard, crd, rfl⟩ := hs.rowSl 0 rfl
  obtain ⟨_, hG_hrd, hrd, hs⟩ := hs.fixRow noM
  replace ho1 := ho1.mono hG_hrd
  replace ho2 := ho2.mono hG_hrd
  replace hsp := hsp.mono hG_hrd
  replace hvC := hvC.mono hG_hrd
  replace hvF := hvF.mono hG_hrd
  replace hs60 := hs60.mono hG_hrd
  replace hr0 := hr0.mono hG_hrd
  replace hs71 := hs71.mono hG_hrd
  replace he0 := he0.mono hG_hrd
  replace hs84 := hs84.mono hG_hrd
  replace hs109 := hs109.mono hG_hrd
  replace hs123 := hs123.mono hG_hrd
  replace hr1 := hr1.mono hG_hrd
  replace hr2 := hr2.mono hG_hrd
  replace hr3 := hr3.mono hG_hrd
  replace he1 := he1.mono hG_hrd
  replace hr4 := hr4.mono hG_hrd
  replace hrd : Bytes _ (.slice Ard 2 crd) [97, 97] := Bytes.ofSl hrd rfl rfl
  refine T_seq (T_seq (T_region rfl ?_))
  refine O_y hs (Y_move rfl ?_)
  refine O_y hs (Y_fieldAddr FO24_1 rfl (m := 1) rfl ?_)
  refine O_y hs (Y_ld 5 Tryz.isAgg22 rfl rfl rfl ?_)
  refine O_s (S_call (H1 := []) hs rfl Tryz.func74 rfl (by kernel_rfl) (equal_ok hrd ho1) fun v27 G' H' _ hR hG92 hs => ?_)
  obtain ⟨rfl, rfl⟩ := hR
  replace hs : St _ _ [_, _, _, _, _, _] _ := hs
  replace ho1 := ho1.mono hG92
  replace ho2 := ho2.mono hG92
  replace hsp := hsp.mono hG92
  replace hvC := hvC.mono hG92
  replace hvF := hvF.mono hG92
  replace hs60 := hs60.mono hG92
  replace hr0 := hr0.mono hG92
  replace hs71 := hs71.mono hG92
  replace he0 := he0.mono hG92
  replace hs84 := hs84.mono hG92
  replace hs109 := hs109.mono hG92
  replace hs123 := hs123.mono hG92
  replace hr1 := hr1.mono hG92
  replace hr2 := hr2.mono hG92
  replace hr3 := hr3.mono hG92
  replace he1 := he1.mono hG92
  replace hr4 := hr4.mono hG92
  replace hrd := hrd.mono hG92
  rw [show decide (([97, 97] : List UInt8) = [97, 97]) = true by decide]
  refine O_nil (T_sub [(1, _), (3, _), (5, _), (6, _), (7, _), (11, _), (12, _), (29, _), (30, _), (75, _), (76, _), (77, _), (92, _)] ⟨rfl, rfl, rfl, rfl, rfl, rfl, rfl, rfl, rfl, rfl, rfl, rfl, rfl, trivial⟩ ?_)
  refine T_condT rfl (T_seq (T_region rfl ?_))
  refine O_y hs (Y_move rfl ?_)
  refine O_y hs (Y_move rfl ?_)
  refine O_y hs (Y_move rfl ?_)
  refine O_y hs (Y_move rfl ?_)
  refine O_y hs (Y_fieldAddr FO24_2 rfl (m := 2) rfl ?_)
  refine O_y hs (Y_ld 5 Tryz.isAgg22 rfl rfl rfl ?_)
  have hs := hs.front 2 rfl (H' := [_, _, _, _, _, _]) rfl
  have hs := hs.front 2 rfl (H' := [_, _, _, _, _, _]) rfl
  have hs := hs.front 2 rfl (H' := [_, _, _, _, _, _]) rfl
  refine O_s (S_call (H1 := [_, _, _]) hs rfl Tryz.func42 rfl (by kernel_rfl) (on_ok (fr := 1) (to := 0) (by decide) rfl hsp ho2 (by decide)) fun v28 G' H' _ hR hG99 hs => ?_)
  obtain ⟨r5, rfl⟩ := hR
  replace hs : St _ _ [_, _, _, _, _, _, _] _ := hs
  replace ho1 := ho1.mono hG99
  replace ho2 := ho2.mono hG99
  replace hsp := hsp.mono hG99
  replace hvC := hvC.mono hG99
  replace hvF := hvF.mono hG99
  replace hs60 := hs60.mono hG99
  replace hr0 := hr0.mono hG99
  replace hs71 := hs71.mono hG99
  replace he0 := he0.mono hG99
  replace hs84 := hs84.mono hG99
  replace hs109 := hs109.mono hG99
  replace hs123 := hs123.mono hG99
  replace hr1 := hr1.mono hG99
  replace hr2 := hr2.mono hG99
  replace hr3 := hr3.mono hG99
  replace he1 := he1.mono hG99
  replace hr4 := hr4.mono hG99
  replace hrd := hrd.mono hG99
  obtain ⟨_, hG_hr5, hr5, hs⟩ := hs.fixRow noM
  replace ho1 := ho1.mono hG_hr5
  replace ho2 := ho2.mono hG_hr5
  replace hsp := hsp.mono hG_hr5
  replace hvC := hvC.mono hG_hr5
  replace hvF := hvF.mono hG_hr5
  replace hs60 := hs60.mono hG_hr5
  replace hr0 := hr0.mono hG_hr5
  replace hs71 := hs71.mono hG_hr5
  replace he0 := he0.mono hG_hr5
  replace hs84 := hs84.mono hG_hr5
  replace hs109 := hs109.mono hG_hr5
  replace hs123 := hs123.mono hG_hr5
  replace hr1 := hr1.mono hG_hr5
  replace hr2 := hr2.mono hG_hr5
  replace hr3 := hr3.mono hG_hr5
  replace he1 := he1.mono hG_hr5
  replace hr4 := hr4.mono hG_hr5
  replace hrd := hrd.mono hG_hr5
  refine O_nil (T_sub [(1, _), (3, _), (5, _), (6, _), (7, _), (29, _), (30, _), (75, _), (76, _), (77, _)] ⟨rfl, rfl, rfl, rfl, rfl, rfl, rfl, rfl, rfl, rfl, trivial⟩ ?_)
  refine T_exit ?_
  refine T_region rfl ?_
  refine O_y hs (Y_add (c := (2)) rfl rfl (by decide) (by decide) ?_)
  refine O_y hs (Y_move rfl ?_)
  refine O_nil ⟨[(1, _), (3, _), (5, _), (6, _), (7, _), (29, _), (30, _), (75, _), (76, _), (77, _)], ⟨rfl, rfl, rfl, rfl, rfl, rfl, rfl, rfl, rfl, rfl, trivial⟩, U_go ?_⟩
  refine T_seq (T_region rfl ?_)
  refine O_y hs (Y_cmpF rfl rfl rfl (by decide) ?_)
  refine O_nil (T_sub [(1, _), (3, _), (5, _), (6, _), (7, _), (29, _), (30, _), (75, _), (76, _), (77, _), (78, _)] ⟨rfl, rfl, rfl, rfl, rfl, rfl, rfl, rfl, rfl, rfl, rfl, trivial⟩ ?_)
  refine T_seq (T_condF rfl (T_exit ?_))
  refine T_region rfl ?_
  refine O_y hs (Y_add (c := (2)) rfl rfl (by decide) (by decide) ?_)
  refine O_y hs (Y_move rfl ?_)
  refine O_nil ⟨[(1, _), (3, _), (5, _), (6, _), (29, _), (30, _)], ⟨rfl, rfl, rfl, rfl, rfl, rfl, trivial⟩, U_go ?_⟩
  refine T_seq (T_region rfl ?_)
  refine O_y hs (Y_cmpF rfl rfl rfl (by decide) ?_)
  refine O_nil (T_sub [(1, _), (3, _), (5, _), (6, _), (29, _), (30, _), (31, _)] ⟨rfl, rfl, rfl, rfl, rfl, rfl, rfl, trivial⟩ ?_)
  refine T_seq (T_condF rfl (T_exit ?_))
  refine T_seq (T_region rfl ?_)
  refine O_y hs (Y_move rfl ?_)
  refine O_y hs (Y_assign rfl ?_)
  refine O_nil (T_sub [(2, _)] ⟨rfl, trivial⟩ ?_)
  refine T_ret ?_
  clear hcE
  have hs := hs.front 4 rfl (H' := [_, _, _, _, _, _]) rfl
  obtain ⟨_, hG_hm0, hm0, hs⟩ := hs.fixBlk (fun k _ => noMb k)
  replace ho1 := ho1.mono hG_hm0
  replace ho2 := ho2.mono hG_hm0
  replace hsp := hsp.mono hG_hm0
  replace hvC := hvC.mono hG_hm0
  replace hvF := hvF.mono hG_hm0
  replace hs60 := hs60.mono hG_hm0
  replace hr0 := hr0.mono hG_hm0
  replace hs71 := hs71.mono hG_hm0
  replace he0 := he0.mono hG_hm0
  replace hs84 := hs84.mono hG_hm0
  replace hs109 := hs109.mono hG_hm0
  replace hs123 := hs123.mono hG_hm0
  replace hr1 := hr1.mono hG_hm0
  replace hr2 := hr2.mono hG_hm0
  replace hr3 := hr3.mono hG_hm0
  replace he1 := he1.mono hG_hm0
  replace hr4 := hr4.mono hG_hm0
  replace hrd := hrd.mono hG_hm0
  replace hr5 := hr5.mono hG_hm0
  replace hm0 : ClAt _ _ _ := hm0
  obtain ⟨_, hG_hm1, hm1, hs⟩ := hs.fixBlk (fun k _ => noMb k)
  replace ho1 := ho1.mono hG_hm1
  replace ho2 := ho2.mono hG_hm1
  replace hsp := hsp.mono hG_hm1
  replace hvC := hvC.mono hG_hm1
  replace hvF := hvF.mono hG_hm1
  replace hs60 := hs60.mono hG_hm1
  replace hr0 := hr0.mono hG_hm1
  replace hs71 := hs71.mono hG_hm1
  replace he0 := he0.mono hG_hm1
  replace hs84 := hs84.mono hG_hm1
  replace hs109 := hs109.mono hG_hm1
  replace hs123 := hs123.mono hG_hm1
  replace hr1 := hr1.mono hG_hm1
  replace hr2 := hr2.mono hG_hm1
  replace hr3 := hr3.mono hG_hm1
  replace he1 := he1.mono hG_hm1
  replace hr4 := hr4.mono hG_hm1
  replace hrd := hrd.mono hG_hm1
  replace hr5 := hr5.mono hG_hm1
  replace hm0 := hm0.mono hG_hm1
  replace hm1 : ClAt _ _ _ := hm1
  obtain ⟨_, hG_hvM, hvM, hs⟩ := hs.fixRow noM
  replace ho1 := ho1.mono hG_hvM
  replace ho2 := ho2.mono hG_hvM
  replace hsp := hsp.mono hG_hvM
  replace hvC := hvC.mono hG_hvM
  replace hvF := hvF.mono hG_hvM
  replace hs60 := hs60.mono hG_hvM
  replace hr0 := hr0.mono hG_hvM
  replace hs71 := hs71.mono hG_hvM
  replace he0 := he0.mono hG_hvM
  replace hs84 := hs84.mono hG_hvM
  replace hs109 := hs109.mono hG_hvM
  replace hs123 := hs123.mono hG_hvM
  replace hr1 := hr1.mono hG_hvM
  replace hr2 := hr2.mono hG_hvM
  replace hr3 := hr3.mono hG_hvM
  replace he1 := he1.mono hG_hvM
  replace hr4 := hr4.mono hG_hvM
  replace hrd := hrd.mono hG_hvM
  replace hr5 := hr5.mono hG_hvM
  replace hm0 := hm0.mono hG_hvM
  replace hm1 := hm1.mono hG_hvM
  have hs := hs.front 1 rfl (H' := [_, _, _]) rfl
  obtain ⟨_, hG_hvE, hvE, hs⟩ := hs.fixRow noM
  replace ho1 := ho1.mono hG_hvE
  replace ho2 := ho2.mono hG_hvE
  replace hsp := hsp.mono hG_hvE
  replace hvC := hvC.mono hG_hvE
  replace hvF := hvF.mono hG_hvE
  replace hs60 := hs60.mono hG_hvE
  replace hr0 := hr0.mono hG_hvE
  replace hs71 := hs71.mono hG_hvE
  replace he0 := he0.mono hG_hvE
  replace hs84 := hs84.mono hG_hvE
  replace hs109 := hs109.mono hG_hvE
  replace hs123 := hs123.mono hG_hvE
  replace hr1 := hr1.mono hG_hvE
  replace hr2 := hr2.mono hG_hvE
  replace hr3 := hr3.mono hG_hvE
  replace he1 := he1.mono hG_hvE
  replace hr4 := hr4.mono hG_hvE
  replace hrd := hrd.mono hG_hvE
  replace hr5 := hr5.mono hG_hvE
  replace hm0 := hm0.mono hG_hvE
  replace hm1 := hm1.mono hG_hvE
  replace hvM := hvM.mono hG_hvE
  refine Rt_fin (vs := [_]) Tryz.results44 rfl ⟨rfl, trivial⟩ ?_
  try dsimp only [tup]
  refine ⟨_, [_], hs.weak hs.le (Ghost.le.refl _) (List.sublist_append_left [_] _), bb, sp, vC, vM, vF, _, rfl, rfl, _, _, _, _, rfl, ?_, ?_, ?_, ?_⟩
  · exact LstR.ofSl hvC (cs := [List.map u64V [18446744073709551615, 18446744065119617023, 18446744073709551615, 18446744073709551615], List.map u64V [0, 8589934592, 0, 0]]) rfl rfl ⟨⟨rfl, rfl, by decide⟩, ⟨rfl, rfl, by decide⟩, trivial⟩ (by simp)
  · exact LstR.ofSl hvM (cs := [[.slice (some ⟨m0, 0, none⟩) 2 2], [.slice (some ⟨m1, 0, none⟩) 2 2]]) rfl rfl ⟨⟨_, rfl, LstR.ofSl (Sl.ofBlk (n := 2) (k := 2) rfl (by decide) hm0) (cs := [[.int .i64 0, r0], [.int .i64 1, r2]]) rfl rfl ⟨⟨_, rfl, Pcs.litC hr0 rfl⟩, ⟨_, rfl, Pcs.lit hr2 rfl⟩, trivial⟩ (by simp)⟩, ⟨_, rfl, LstR.ofSl (Sl.ofBlk (n := 2) (k := 2) rfl (by decide) hm1) (cs := [[.int .i64 0, r3], [.int .i64 0, r5]]) rfl rfl ⟨⟨_, rfl, Pcs.litC hr3 rfl⟩, ⟨_, rfl, Pcs.lit hr5 rfl⟩, trivial⟩ (by simp)⟩, trivial⟩ (by simp)
  · exact LstR.ofSl hvF (cs := [[.bool true], [.bool true]]) rfl rfl ⟨rfl, rfl, trivial⟩ (by simp)
  · exact LstR.ofSl hvE (cs := [[_], [_]]) rfl rfl ⟨⟨_, rfl, he0⟩, ⟨_, rfl, he1⟩, trivial⟩ (by simp)
  skip

set_option maxHeartbeats 400000 in
set_option maxRecDepth 10000 in
theorem mach_aa {G : Ghost} {v : Value} (ho : OpR G v ⟨6, [97, 97], [98]⟩) :
    FnOk Tryz.prog 18 [v] G [] fun r G' H' => H' = [] ∧ ∃ u, r = .tuple #[u, .int .i64 0] ∧ TrR G' u trAA := by
  have ho0 := ho
  obtain ⟨u1, u2, rfl, ho1, ho2⟩ := ho
  obtain ⟨A1, c1, rfl, _⟩ := id ho1
  obtain ⟨A2, c2, rfl, _⟩ := id ho2
  replace ho1 : Bytes _ (.slice A1 2 c1) [97, 97] := ho1
  replace ho2 : Bytes _ (.slice A2 1 c2) [98] := ho2
  refine FnOk.of_T [(0, _)] Tryz.func18 rfl Tryz.ntmps18 (by simp) rfl fun w0 hs => ?_
  have ho10 := ho1
  have ho20 := ho2
  refine T_seq (T_region rfl ?_)
  refine O_s (S_box hs rfl (cs := [_, _, _]) rfl fun b1 _ hs => ?_)
  refine O_s (S_alloc hs Tryz.zeroValue43 (cs := [_, _, _, _]) rfl fun b2 _ hs => ?_)
  refine O_y hs (Y_assign rfl ?_)
  refine O_nil (T_sub [(1, _), (2, _)] ⟨rfl, rfl, trivial⟩ ?_)
  refine T_seq (T_seq (T_region rfl ?_))
  refine O_y hs (Y_ldA 1 Tryz.isAgg24 Tryz.sizeOf24 rfl rfl (vs := [_, _, _]) rfl rfl ?_)
  refine O_s (S_call (H1 := []) hs rfl Tryz.func12 rfl (by kernel_rfl) (valid_ok (o := ⟨6, [97, 97], [98]⟩) ⟨_, _, rfl, ho1, ho2⟩) fun v1 G' H' _ hR hG9 hs => ?_)
  obtain ⟨rfl, rfl⟩ := hR
  replace hs : St _ _ [_, _] _ := hs
  replace ho1 := ho1.mono hG9
  replace ho2 := ho2.mono hG9
  rw [show (if validO ⟨6, [97, 97], [98]⟩ = true then (0 : Int) else 1) = 0 by decide]
  refine O_y hs (Y_cmpF rfl rfl rfl (by decide) ?_)
  refine O_nil (T_sub [(1, _), (2, _), (10, _)] ⟨rfl, rfl, rfl, trivial⟩ ?_)
  refine T_condF rfl (T_skip ?_)
  refine T_seq (T_region rfl ?_)
  refine O_y hs (Y_assign rfl ?_)
  refine O_nil (T_sub [(1, _), (2, _)] ⟨rfl, rfl, trivial⟩ ?_)
  refine T_seq (T_seq (T_region rfl ?_))
  refine O_y hs (Y_fieldAddr FO24_0 rfl (m := 0) rfl ?_)
  refine O_y hs (Y_ld 1 Tryz.isAgg3 rfl rfl rfl ?_)
  refine O_nil (T_sub [(1, _), (2, _), (13, _)] ⟨rfl, rfl, rfl, trivial⟩ ?_)
  refine T_block (T_seq (T_region rfl ?_))
  refine O_y hs (Y_cmpF rfl rfl rfl (by decide) ?_)
  refine O_y hs (Y_assign rfl ?_)
  refine O_nil (T_sub [(1, _), (2, _), (13, _), (16, _)] ⟨rfl, rfl, rfl, rfl, trivial⟩ ?_)
  refine T_condF rfl (T_seq (T_region rfl ?_))
  refine O_y hs (Y_cmpF rfl rfl rfl (by decide) ?_)
  refine O_y hs (Y_assign rfl ?_)
  refine O_nil (T_sub [(1, _), (2, _), (13, _), (19, _)] ⟨rfl, rfl, rfl, rfl, trivial⟩ ?_)
  refine T_condF rfl (T_seq (T_region rfl ?_))
  refine O_y hs (Y_cmpF rfl rfl rfl (by decide) ?_)
  refine O_y hs (Y_assign rfl ?_)
  refine O_nil (T_sub [(1, _), (2, _), (13, _), (22, _)] ⟨rfl, rfl, rfl, rfl, trivial⟩ ?_)
  refine T_condF rfl (T_seq (T_region rfl ?_))
  refine O_y hs (Y_cmpF rfl rfl rfl (by decide) ?_)
  refine O_y hs (Y_assign rfl ?_)
  refine O_nil (T_sub [(1, _), (2, _), (13, _), (41, _)] ⟨rfl, rfl, rfl, rfl, trivial⟩ ?_)
  refine T_condF rfl (T_seq (T_seq (T_region rfl ?_)))
  refine O_y hs (Y_cmpF rfl rfl rfl (by decide) ?_)
  refine O_y hs (Y_assign rfl ?_)
  refine O_nil (T_sub [(1, _), (2, _), (13, _), (73, _)] ⟨rfl, rfl, rfl, rfl, trivial⟩ ?_)
  refine T_condF rfl (T_region rfl ?_)
  refine O_y hs (Y_cmpF rfl rfl rfl (by decide) ?_)
  refine O_y hs (Y_assign rfl ?_)
  refine O_nil (T_sub [(1, _), (2, _), (73, _)] ⟨rfl, rfl, rfl, trivial⟩ ?_)
  refine T_condF rfl (T_region rfl ?_)
  refine O_y hs (Y_ldA 1 Tryz.isAgg24 Tryz.sizeOf24 rfl rfl (vs := [_, _, _]) rfl rfl ?_)
  refine O_s (S_call (H1 := []) hs rfl Tryz.func44 rfl (by kernel_rfl) (matcher_aa ho1 ho2) fun v2 G' H' _ hR hG15 hs => ?_)
  obtain ⟨bb, sp, vC, vM, vF, vE, rfl, rfl, htr⟩ := hR
  replace hs : St _ _ [_, _, _] _ := hs
  replace ho1 := ho1.mono hG15
  replace ho2 := ho2.mono hG15
  refine O_y hs (Y_assign rfl ?_)
  refine O_nil (T_sub [(2, _), (4, _)] ⟨rfl, rfl, trivial⟩ ?_)
  refine T_seq (T_region rfl ?_)
  refine O_y hs (Y_move rfl ?_)
  refine O_y hs (Y_nil rfl ?_)
  refine O_y hs (Y_fieldAddr FO77_1 rfl (m := 1) rfl ?_)
  refine O_y hs (Y_ldA 0 Tryz.isAgg43 Tryz.sizeOf43 rfl rfl (vs := [_, _, _, _]) rfl rfl ?_)
  have hs := hs.front 1 rfl (H' := [_, _, _]) rfl
  refine O_n (S_stA hs Tryz.sizeOf43 rfl rfl (vs := [_, _, _, _]) rfl (htr.ones) (by simp) (cs' := [_, _, _, _]) rfl fun _ hs => ?_)
  refine O_y hs (Y_assign rfl ?_)
  refine O_nil (T_sub [(2, _), (3, _)] ⟨rfl, rfl, trivial⟩ ?_)
  refine T_ret ?_
  have hr := hs
  refine Rt_fin (vs := [_, _]) Tryz.results18 rfl ⟨ResOk_blk 0 hr Tryz.isAgg43 Tryz.sizeOf43 rfl (cs := [_, _, _, _]) rfl rfl, rfl, trivial⟩ ?_
  try dsimp only [tup]
  exact ⟨_, [], hs.done, rfl, _, rfl, htr⟩

set_option maxHeartbeats 400000 in
set_option maxRecDepth 10000 in
theorem mach_bad {G : Ghost} {v : Value} {o : OpV} (ho : OpR G v o) (hz : validO o = false) :
    FnOk Tryz.prog 18 [v] G [] fun r _ H' => H' = [] ∧ r = .tuple #[.agg #[.slice none 0 0, .slice none 0 0, .slice none 0 0, .slice none 0 0], .int .i64 1] := by
  obtain ⟨u1, u2, rfl, ho1, ho2⟩ := ho
  obtain ⟨A1, c1, rfl, _⟩ := id ho1
  obtain ⟨A2, c2, rfl, _⟩ := id ho2
  refine FnOk.of_T [(0, _)] Tryz.func18 rfl Tryz.ntmps18 (by simp) rfl fun w0 hs => ?_
  have ho10 := ho1
  have ho20 := ho2
  refine T_seq (T_region rfl ?_)
  refine O_s (S_box hs rfl (cs := [_, _, _]) rfl fun b1 _ hs => ?_)
  refine O_s (S_alloc hs Tryz.zeroValue43 (cs := [_, _, _, _]) rfl fun b2 _ hs => ?_)
  refine O_y hs (Y_assign rfl ?_)
  refine O_nil (T_sub [(1, _), (2, _)] ⟨rfl, rfl, trivial⟩ ?_)
  refine T_seq (T_seq (T_region rfl ?_))
  refine O_y hs (Y_ldA 1 Tryz.isAgg24 Tryz.sizeOf24 rfl rfl (vs := [_, _, _]) rfl rfl ?_)
  refine O_s (S_call (H1 := []) hs rfl Tryz.func12 rfl (by kernel_rfl) (valid_ok ⟨_, _, rfl, ho1, ho2⟩) fun v1 G' H' _ hR hG9 hs => ?_)
  obtain ⟨rfl, rfl⟩ := hR
  replace hs : St _ _ [_, _] _ := hs
  replace ho1 := ho1.mono hG9
  replace ho2 := ho2.mono hG9
  rw [if_neg (by simp [hz])]
  refine O_y hs (Y_cmpT rfl rfl rfl (by decide) ?_)
  refine O_nil (T_sub [(1, _), (2, _), (10, _)] ⟨rfl, rfl, rfl, trivial⟩ ?_)
  refine T_condT rfl (T_seq (T_region rfl ?_))
  refine O_y hs (Y_build Tryz.zeroValue43 rfl PL43 rfl (cs := [_, _, _, _]) rfl ?_)
  refine O_n (S_stA hs Tryz.sizeOf43 rfl rfl (vs := [_, _, _, _]) rfl (rfl) (by simp) (cs' := [_, _, _, _]) rfl fun _ hs => ?_)
  refine O_y hs (Y_assign rfl ?_)
  refine O_nil (T_sub [(2, _), (3, _)] ⟨rfl, rfl, trivial⟩ ?_)
  refine T_ret ?_
  have hr := hs
  refine Rt_fin (vs := [_, _]) Tryz.results18 rfl ⟨ResOk_blk 0 hr Tryz.isAgg43 Tryz.sizeOf43 rfl (cs := [_, _, _, _]) rfl rfl, rfl, trivial⟩ ?_
  try dsimp only [tup]
  exact ⟨_, [], hs.done, rfl, rfl⟩

set_option maxHeartbeats 400000 in
set_option maxRecDepth 10000 in
theorem trim_ok {G : Ghost} {v : Value} {c : List Nat} {b : List UInt8} (hc : c.length = 4) (hb : Bytes G v b) (hbl : b.length ≤ 1000000000) :
    FnOk Tryz.prog 15 [ClsV c, v] G [] fun r G' H' => H' = [] ∧ Bytes G' r (trimF c b) := by
  obtain ⟨A, cap, rfl, _⟩ := id hb
  refine FnOk.of_T [(0, _), (1, _)] Tryz.func15 rfl Tryz.ntmps15 (by simp) rfl fun w0 hs => ?_
  refine T_seq (T_region rfl ?_)
  refine O_s (S_box hs rfl (cs := (List.map u64V c)) rfl fun b2 _ hs => ?_)
  refine O_y hs (Y_assign rfl ?_)
  refine O_nil (T_sub [(1, _), (2, _)] ⟨rfl, rfl, trivial⟩ ?_)
  refine T_seq (T_block (T_loop (fun m E w => ∃ (rest : List UInt8) (A : Option Addr) (cap : Nat) (G' : Ghost), b.dropWhile (hasF c) = rest.dropWhile (hasF c) ∧ Bytes G' (.slice A rest.length cap) rest ∧ rest.length ≤ b.length ∧ m = rest.length ∧ E = ⟨[], [(1, (.slice A rest.length cap)), (2, .pointer (some ⟨b2, 0, none⟩))]⟩ ∧ St ⟨w0, G, feet []⟩ G' [.blk b2 27 (List.map u64V c)] w) (L := [(1, _), (2, _)]) ⟨rfl, rfl, trivial⟩ (⟨b, _, _, _, rfl, hb, by omega, rfl, rfl, hs⟩) fun m E w hI => ?_))
  obtain ⟨rest, A, cap, G', hp, hr, hn, rfl, rfl, hs⟩ := hI
  refine T_seq (T_seq (T_drawS [0, 1, 2, 3, 4, 5, 6, 7, 8, 9] hs (by kernel_rfl) ?_))
  replace hs := hs.drew
  refine A_take 0 rfl (by kernel_rfl) rfl hs (Y_move rfl ?_)
  refine A_take 1 rfl (by kernel_rfl) rfl hs (Y_len Tryz.underlying22 rfl ?_)
  refine A_take 2 rfl (by kernel_rfl) rfl hs (Y_cmpS rfl rfl rfl (fun h7 => ?_) (fun h7 => ?_))
  · -- h7: True
    dsimp only [cmpP] at h7
    obtain ⟨a, t, rfl⟩ := cons_of (show 0 < rest.length by omega)
    refine A_take 3 rfl (by kernel_rfl) rfl hs (Y_move rfl ?_)
    refine A_take 4 rfl (by kernel_rfl) rfl hs (Y_ldW 0 Tryz.isAgg27 Tryz.sizeOf27 rfl rfl (by first | omega | (simp; omega) | simp) ?_)
    refine A_take 5 rfl (by kernel_rfl) rfl hs (Y_move rfl ?_)
    refine A_take 6 rfl (by kernel_rfl) rfl hs (Y_idxB hr 0 Tryz.underlying22 Tryz.sizeOf5 rfl rfl rfl (by simp) fun p11 hp11 => ?_)
    refine A_take 7 rfl (by kernel_rfl) rfl hs (Y_ldG Tryz.isAgg5 rfl (hp11) ?_)
    have hle := hs.le
    refine A_only 8 rfl (by kernel_rfl) rfl (S_call (H1 := []) hs rfl Tryz.func34 rfl (by kernel_rfl) (has_ok hc) fun v1 G' H' _ hR hG13 hs => ?_)
    obtain ⟨rfl, rfl⟩ := hR
    replace hs : St _ _ [_] _ := hs
    replace hr := hr.mono hG13
    cases hq : hasF c ((a :: t)[0])
    · -- hq: False
      refine A_moreS hs hle hG13 (List.Sublist.refl _) ?_
      refine A_take 9 rfl (by kernel_rfl) rfl hs (Y_pickT rfl rfl ?_)
      refine A_done (by kernel_rfl) (T_sub [(1, _), (2, _), (14, _)] ⟨rfl, rfl, rfl, trivial⟩ ?_)
      refine T_condF rfl (T_exit ?_)
      refine T_seq (T_block (T_loop (fun m E w => ∃ (rest : List UInt8) (A : Option Addr) (cap : Nat) (G' : Ghost), trimF c b = (rest.reverse.dropWhile (hasF c)).reverse ∧ Bytes G' (.slice A rest.length cap) rest ∧ rest.length ≤ b.length ∧ m = rest.length ∧ E = ⟨[], [(1, (.slice A rest.length cap)), (2, .pointer (some ⟨b2, 0, none⟩))]⟩ ∧ St ⟨w0, G, feet []⟩ G' [.blk b2 27 (List.map u64V c)] w) (L := [(1, _), (2, _)]) ⟨rfl, rfl, trivial⟩ (⟨_, _, _, _, by first | exact trim_1 hp hq | exact trim_0 hp (by omega), hr, hn, rfl, rfl, hs⟩) fun m E w hI => ?_))
      obtain ⟨rest, A, cap, G', hp, hr, hn, rfl, rfl, hs⟩ := hI
      refine T_seq (T_seq (T_drawS [0, 1, 2, 3, 4, 5, 6, 7, 8, 9, 10, 11, 12] hs (by kernel_rfl) ?_))
      replace hs := hs.drew
      refine A_take 0 rfl (by kernel_rfl) rfl hs (Y_move rfl ?_)
      refine A_take 1 rfl (by kernel_rfl) rfl hs (Y_len Tryz.underlying22 rfl ?_)
      refine A_take 2 rfl (by kernel_rfl) rfl hs (Y_cmpS rfl rfl rfl (fun h19 => ?_) (fun h19 => ?_))
      · -- h19: True
        dsimp only [cmpP] at h19
        refine A_take 3 rfl (by kernel_rfl) rfl hs (Y_move rfl ?_)
        refine A_take 4 rfl (by kernel_rfl) rfl hs (Y_ldW 0 Tryz.isAgg27 Tryz.sizeOf27 rfl rfl (by first | omega | (simp; omega) | simp) ?_)
        refine A_take 5 rfl (by kernel_rfl) rfl hs (Y_move rfl ?_)
        refine A_take 6 rfl (by kernel_rfl) rfl hs (Y_move rfl ?_)
        refine A_take 7 rfl (by kernel_rfl) rfl hs (Y_len Tryz.underlying22 rfl ?_)
        refine A_take 8 rfl (by kernel_rfl) rfl hs (Y_sub (c := ((rest.length - 1 : Nat) : Int)) rfl rfl (by omega) (by omega) ?_)
        refine A_take 9 rfl (by kernel_rfl) rfl hs (Y_idxB hr (rest.length - 1) Tryz.underlying22 Tryz.sizeOf5 rfl rfl rfl (by omega) fun p26 hp26 => ?_)
        refine A_take 10 rfl (by kernel_rfl) rfl hs (Y_ldG Tryz.isAgg5 rfl (hp26) ?_)
        have hle := hs.le
        refine A_only 11 rfl (by kernel_rfl) rfl (S_call (H1 := []) hs rfl Tryz.func34 rfl (by kernel_rfl) (has_ok hc) fun v2 G' H' _ hR hG28 hs => ?_)
        obtain ⟨rfl, rfl⟩ := hR
        replace hs : St _ _ [_] _ := hs
        replace hr := hr.mono hG28
        cases hq2 : hasF c (rest[rest.length - 1])
        · -- hq2: False
          refine A_moreS hs hle hG28 (List.Sublist.refl _) ?_
          refine A_take 12 rfl (by kernel_rfl) rfl hs (Y_pickT rfl rfl ?_)
          refine A_done (by kernel_rfl) (T_sub [(1, _), (2, _), (29, _)] ⟨rfl, rfl, rfl, trivial⟩ ?_)
          refine T_condF rfl (T_exit ?_)
          refine T_seq (T_region rfl ?_)
          refine O_y hs (Y_move rfl ?_)
          refine O_s (S_call (H1 := []) hs rfl Tryz.func35 rfl (by kernel_rfl) (clone_ok hr (by omega)) fun v3 G' H' _ hR hG36 hs => ?_)
          obtain ⟨rfl, hf⟩ := hR
          replace hs : St _ _ [_] _ := hs
          replace hr := hr.mono hG36
          refine O_y hs (Y_assign rfl ?_)
          refine O_nil (T_sub [(4, _)] ⟨rfl, trivial⟩ ?_)
          refine T_ret ?_
          refine Rt_fin (vs := [_]) Tryz.results15 rfl ⟨rfl, trivial⟩ ?_
          try dsimp only [tup]
          exact ⟨_, [], hs.done, rfl, by rw [hp]; first | (rw [trim_3 (by omega) hq2]; exact hf) | (rw [trim_4 (by omega)]; exact hf)⟩
        · -- hq2: True
          refine A_moreS hs hle hG28 (List.Sublist.refl _) ?_
          refine A_take 12 rfl (by kernel_rfl) rfl hs (Y_pickT rfl rfl ?_)
          refine A_done (by kernel_rfl) (T_sub [(1, _), (2, _), (29, _)] ⟨rfl, rfl, rfl, trivial⟩ ?_)
          refine T_condT rfl (T_skip ?_)
          refine T_block (T_region rfl ?_)
          refine O_y hs (Y_move rfl ?_)
          refine O_y hs (Y_move rfl ?_)
          refine O_y hs (Y_len Tryz.underlying22 rfl ?_)
          refine O_y hs (Y_sub (c := ((rest.length - 1 : Nat) : Int)) rfl rfl (by omega) (by omega) ?_)
          refine O_y hs (Y_sliceB hr 0 (rest.length - 1) Tryz.underlying22 Tryz.sizeOf5 rfl rfl ⟨_, _, rfl, rfl⟩ (by omega) (by omega) fun s34 hs34 => ?_)
          obtain ⟨A34, c34, rfl, _⟩ := id hs34
          refine O_y hs (Y_assign rfl ?_)
          refine O_nil ⟨_, ?_, [(1, _), (2, _)], ⟨rfl, rfl, trivial⟩, ⟨_, _, _, _, by rw [hp, trim_2 (by omega) hq2], hs34, by rw [List.length_take, List.length_drop]; omega, rfl, rfl, hs⟩⟩
          rw [List.length_take, List.length_drop]; omega
      · -- h19: False
        dsimp only [cmpP] at h19
        refine A_take 3 rfl (by kernel_rfl) rfl hs (Y_move rfl ?_)
        refine A_skip 4 rfl (by kernel_rfl) rfl hs ?_
        refine A_skip 5 rfl (by kernel_rfl) rfl hs ?_
        refine A_skip 6 rfl (by kernel_rfl) rfl hs ?_
        refine A_skip 7 rfl (by kernel_rfl) rfl hs ?_
        refine A_skip 8 rfl (by kernel_rfl) rfl hs ?_
        refine A_skip 9 rfl (by kernel_rfl) rfl hs ?_
        refine A_skip 10 rfl (by kernel_rfl) rfl hs ?_
        refine A_skip 11 rfl (by kernel_rfl) rfl hs ?_
        refine A_take 12 rfl (by kernel_rfl) rfl hs (Y_pickF rfl rfl ?_)
        refine A_done (by kernel_rfl) (T_sub [(1, _), (2, _), (29, _)] ⟨rfl, rfl, rfl, trivial⟩ ?_)
        refine T_condF rfl (T_exit ?_)
        refine T_seq (T_region rfl ?_)
        refine O_y hs (Y_move rfl ?_)
        refine O_s (S_call (H1 := []) hs rfl Tryz.func35 rfl (by kernel_rfl) (clone_ok hr (by omega)) fun v4 G' H' _ hR hG36 hs => ?_)
        obtain ⟨rfl, hf⟩ := hR
        replace hs : St _ _ [_] _ := hs
        replace hr := hr.mono hG36
        refine O_y hs (Y_assign rfl ?_)
        refine O_nil (T_sub [(4, _)] ⟨rfl, trivial⟩ ?_)
        refine T_ret ?_
        refine Rt_fin (vs := [_]) Tryz.results15 rfl ⟨rfl, trivial⟩ ?_
        try dsimp only [tup]
        exact ⟨_, [], hs.done, rfl, by rw [hp]; first | (rw [trim_3 (by omega) hq2]; exact hf) | (rw [trim_4 (by omega)]; exact hf)⟩
    · -- hq: True
      refine A_moreS hs hle hG13 (List.Sublist.refl _) ?_
      refine A_take 9 rfl (by kernel_rfl) rfl hs (Y_pickT rfl rfl ?_)
      refine A_done (by kernel_rfl) (T_sub [(1, _), (2, _), (14, _)] ⟨rfl, rfl, rfl, trivial⟩ ?_)
      refine T_condT rfl (T_skip ?_)
      refine T_block (T_region rfl ?_)
      refine O_y hs (Y_move rfl ?_)
      refine O_y hs (Y_sliceB hr 1 (a :: t).length Tryz.underlying22 Tryz.sizeOf5 rfl ⟨_, _, rfl, rfl⟩ rfl (by simp) (by omega) fun s16 hs16 => ?_)
      obtain ⟨A16, c16, rfl, _⟩ := id hs16
      refine O_y hs (Y_assign rfl ?_)
      refine O_nil ⟨_, ?_, [(1, _), (2, _)], ⟨rfl, rfl, trivial⟩, ⟨_, _, _, _, by rw [tk1]; exact trim_d hp hq, hs16, by rw [tk1]; simp only [List.length_cons] at hn; omega, rfl, rfl, hs⟩⟩
      rw [tk1]; simp only [List.length_cons]; omega
  · -- h7: False
    dsimp only [cmpP] at h7
    refine A_take 3 rfl (by kernel_rfl) rfl hs (Y_move rfl ?_)
    refine A_skip 4 rfl (by kernel_rfl) rfl hs ?_
    refine A_skip 5 rfl (by kernel_rfl) rfl hs ?_
    refine A_skip 6 rfl (by kernel_rfl) rfl hs ?_
    refine A_skip 7 rfl (by kernel_rfl) rfl hs ?_
    refine A_skip 8 rfl (by kernel_rfl) rfl hs ?_
    refine A_take 9 rfl (by kernel_rfl) rfl hs (Y_pickF rfl rfl ?_)
    refine A_done (by kernel_rfl) (T_sub [(1, _), (2, _), (14, _)] ⟨rfl, rfl, rfl, trivial⟩ ?_)
    refine T_condF rfl (T_exit ?_)
    refine T_seq (T_block (T_loop (fun m E w => ∃ (rest : List UInt8) (A : Option Addr) (cap : Nat) (G' : Ghost), trimF c b = (rest.reverse.dropWhile (hasF c)).reverse ∧ Bytes G' (.slice A rest.length cap) rest ∧ rest.length ≤ b.length ∧ m = rest.length ∧ E = ⟨[], [(1, (.slice A rest.length cap)), (2, .pointer (some ⟨b2, 0, none⟩))]⟩ ∧ St ⟨w0, G, feet []⟩ G' [.blk b2 27 (List.map u64V c)] w) (L := [(1, _), (2, _)]) ⟨rfl, rfl, trivial⟩ (⟨_, _, _, _, by first | exact trim_1 hp hq | exact trim_0 hp (by omega), hr, hn, rfl, rfl, hs⟩) fun m E w hI => ?_))
    obtain ⟨rest, A, cap, G', hp, hr, hn, rfl, rfl, hs⟩ := hI
    refine T_seq (T_seq (T_drawS [0, 1, 2, 3, 4, 5, 6, 7, 8, 9, 10, 11, 12] hs (by kernel_rfl) ?_))
    replace hs := hs.drew
    refine A_take 0 rfl (by kernel_rfl) rfl hs (Y_move rfl ?_)
    refine A_take 1 rfl (by kernel_rfl) rfl hs (Y_len Tryz.underlying22 rfl ?_)
    refine A_take 2 rfl (by kernel_rfl) rfl hs (Y_cmpS rfl rfl rfl (fun h19 => ?_) (fun h19 => ?_))
    · -- h19: True
      dsimp only [cmpP] at h19
      refine A_take 3 rfl (by kernel_rfl) rfl hs (Y_move rfl ?_)
      refine A_take 4 rfl (by kernel_rfl) rfl hs (Y_ldW 0 Tryz.isAgg27 Tryz.sizeOf27 rfl rfl (by first | omega | (simp; omega) | simp) ?_)
      refine A_take 5 rfl (by kernel_rfl) rfl hs (Y_move rfl ?_)
      refine A_take 6 rfl (by kernel_rfl) rfl hs (Y_move rfl ?_)
      refine A_take 7 rfl (by kernel_rfl) rfl hs (Y_len Tryz.underlying22 rfl ?_)
      refine A_take 8 rfl (by kernel_rfl) rfl hs (Y_sub (c := ((rest.length - 1 : Nat) : Int)) rfl rfl (by omega) (by omega) ?_)
      refine A_take 9 rfl (by kernel_rfl) rfl hs (Y_idxB hr (rest.length - 1) Tryz.underlying22 Tryz.sizeOf5 rfl rfl rfl (by omega) fun p26 hp26 => ?_)
      refine A_take 10 rfl (by kernel_rfl) rfl hs (Y_ldG Tryz.isAgg5 rfl (hp26) ?_)
      have hle := hs.le
      refine A_only 11 rfl (by kernel_rfl) rfl (S_call (H1 := []) hs rfl Tryz.func34 rfl (by kernel_rfl) (has_ok hc) fun v5 G' H' _ hR hG28 hs => ?_)
      obtain ⟨rfl, rfl⟩ := hR
      replace hs : St _ _ [_] _ := hs
      replace hr := hr.mono hG28
      cases hq2 : hasF c (rest[rest.length - 1])
      · -- hq2: False
        refine A_moreS hs hle hG28 (List.Sublist.refl _) ?_
        refine A_take 12 rfl (by kernel_rfl) rfl hs (Y_pickT rfl rfl ?_)
        refine A_done (by kernel_rfl) (T_sub [(1, _), (2, _), (29, _)] ⟨rfl, rfl, rfl, trivial⟩ ?_)
        refine T_condF rfl (T_exit ?_)
        refine T_seq (T_region rfl ?_)
        refine O_y hs (Y_move rfl ?_)
        refine O_s (S_call (H1 := []) hs rfl Tryz.func35 rfl (by kernel_rfl) (clone_ok hr (by omega)) fun v6 G' H' _ hR hG36 hs => ?_)
        obtain ⟨rfl, hf⟩ := hR
        replace hs : St _ _ [_] _ := hs
        replace hr := hr.mono hG36
        refine O_y hs (Y_assign rfl ?_)
        refine O_nil (T_sub [(4, _)] ⟨rfl, trivial⟩ ?_)
        refine T_ret ?_
        refine Rt_fin (vs := [_]) Tryz.results15 rfl ⟨rfl, trivial⟩ ?_
        try dsimp only [tup]
        exact ⟨_, [], hs.done, rfl, by rw [hp]; first | (rw [trim_3 (by omega) hq2]; exact hf) | (rw [trim_4 (by omega)]; exact hf)⟩
      · -- hq2: True
        refine A_moreS hs hle hG28 (List.Sublist.refl _) ?_
        refine A_take 12 rfl (by kernel_rfl) rfl hs (Y_pickT rfl rfl ?_)
        refine A_done (by kernel_rfl) (T_sub [(1, _), (2, _), (29, _)] ⟨rfl, rfl, rfl, trivial⟩ ?_)
        refine T_condT rfl (T_skip ?_)
        refine T_block (T_region rfl ?_)
        refine O_y hs (Y_move rfl ?_)
        refine O_y hs (Y_move rfl ?_)
        refine O_y hs (Y_len Tryz.underlying22 rfl ?_)
        refine O_y hs (Y_sub (c := ((rest.length - 1 : Nat) : Int)) rfl rfl (by omega) (by omega) ?_)
        refine O_y hs (Y_sliceB hr 0 (rest.length - 1) Tryz.underlying22 Tryz.sizeOf5 rfl rfl ⟨_, _, rfl, rfl⟩ (by omega) (by omega) fun s34 hs34 => ?_)
        obtain ⟨A34, c34, rfl, _⟩ := id hs34
        refine O_y hs (Y_assign rfl ?_)
        refine O_nil ⟨_, ?_, [(1, _), (2, _)], ⟨rfl, rfl, trivial⟩, ⟨_, _, _, _, by rw [hp, trim_2 (by omega) hq2], hs34, by rw [List.length_take, List.length_drop]; omega, rfl, rfl, hs⟩⟩
        rw [List.length_take, List.length_drop]; omega
    · -- h19: False
      dsimp only [cmpP] at h19
      refine A_take 3 rfl (by kernel_rfl) rfl hs (Y_move rfl ?_)
      refine A_skip 4 rfl (by kernel_rfl) rfl hs ?_
      refine A_skip 5 rfl (by kernel_rfl) rfl hs ?_
      refine A_skip 6 rfl (by kernel_rfl) rfl hs ?_
      refine A_skip 7 rfl (by kernel_rfl) rfl hs ?_
      refine A_skip 8 rfl (by kernel_rfl) rfl hs ?_
      refine A_skip 9 rfl (by kernel_rfl) rfl hs ?_
      refine A_skip 10 rfl (by kernel_rfl) rfl hs ?_
      refine A_skip 11 rfl (by kernel_rfl) rfl hs ?_
      refine A_take 12 rfl (by kernel_rfl) rfl hs (Y_pickF rfl rfl ?_)
      refine A_done (by kernel_rfl) (T_sub [(1, _), (2, _), (29, _)] ⟨rfl, rfl, rfl, trivial⟩ ?_)
      refine T_condF rfl (T_exit ?_)
      refine T_seq (T_region rfl ?_)
      refine O_y hs (Y_move rfl ?_)
      refine O_s (S_call (H1 := []) hs rfl Tryz.func35 rfl (by kernel_rfl) (clone_ok hr (by omega)) fun v7 G' H' _ hR hG36 hs => ?_)
      obtain ⟨rfl, hf⟩ := hR
      replace hs : St _ _ [_] _ := hs
      replace hr := hr.mono hG36
      refine O_y hs (Y_assign rfl ?_)
      refine O_nil (T_sub [(4, _)] ⟨rfl, trivial⟩ ?_)
      refine T_ret ?_
      refine Rt_fin (vs := [_]) Tryz.results15 rfl ⟨rfl, trivial⟩ ?_
      try dsimp only [tup]
      exact ⟨_, [], hs.done, rfl, by rw [hp]; first | (rw [trim_3 (by omega) hq2]; exact hf) | (rw [trim_4 (by omega)]; exact hf)⟩

theorem run_eq {G : Ghost} {v vb : Value} {t : Tr} {b : List UInt8} (q : Option (List UInt8)) (hq : runT t b = q) (ht : TrR G v t) (hb : Bytes G vb b) (hsm : TrSmall t) (hT : Tab G) (hbl : b.length ≤ 100000000) :
    FnOk Tryz.prog 20 [v, vb] G [] fun r G' H' => H' = [] ∧ ∃ u, r = .tuple #[u, .bool q.isSome] ∧ Bytes G' u (q.getD []) := by
  subst hq
  cases hv : validT t with
  | false => exact run_bad ht hb hsm hv
  | true => exact run_go ht hb hsm hT hbl hv
theorem do_eq {G : Ghost} {v vb : Value} {o : OpV} {b : List UInt8} (q : Option (List UInt8)) (hq : doF o b = q) (ho : OpR G v o) (hb : Bytes G vb b) (hl : b.length ≤ 100000000) (hm : MaxL G) :
    FnOk Tryz.prog 10 [v, vb] G [] fun r G' H' => H' = [] ∧ ∃ u, r = .tuple #[u, .bool q.isSome] ∧ Bytes G' u (q.getD []) := by
  subst hq; exact do_ok ho hb hl hm


set_option maxHeartbeats 400000 in
set_option maxRecDepth 10000 in
theorem does_ok {G : Ghost} {v : Value} {o : OpV} {s w : List UInt8} (hq : doF o s = some w) (ho : OpR G v o) (hl : s.length ≤ 100000000) (hm : MaxL G) :
    FnOk Tryz.prog 26 [v, .string ⟨s.toArray⟩, .string ⟨w.toArray⟩] G [] fun r _ H' => H' = [] ∧ r = .bool true := by
  obtain ⟨u1, u2, rfl, ho1, ho2⟩ := ho
  obtain ⟨A1, c1, rfl, _⟩ := id ho1
  obtain ⟨A2, c2, rfl, _⟩ := id ho2
  refine FnOk.of_T [(0, _), (1, _), (2, _)] Tryz.func26 rfl Tryz.ntmps26 (by simp) rfl fun w0 hs => ?_
  have ho10 := ho1
  have ho20 := ho2
  have hm0 := hm
  refine T_seq (T_region rfl ?_)
  refine O_s (S_box hs rfl (cs := [_, _, _]) rfl fun b3 _ hs => ?_)
  refine O_y hs (Y_assign rfl ?_)
  refine O_nil (T_sub [(1, _), (2, _), (3, _)] ⟨rfl, rfl, rfl, trivial⟩ ?_)
  refine T_seq (T_region rfl ?_)
  refine O_y hs (Y_ldA 0 Tryz.isAgg24 Tryz.sizeOf24 rfl rfl (vs := [_, _, _]) rfl rfl ?_)
  refine O_y hs (Y_move rfl ?_)
  refine O_s (S_bytesOf hs Tryz.underlying9 Tryz.underlying22 Tryz.underlying5 rfl (fun k => noMb k) (by omega) fun G12 v12_ w12 hG12 hb12 hs => ?_)
  replace ho1 := ho1.mono hG12
  replace ho2 := ho2.mono hG12
  replace hm := hm.mono hG12
  refine O_s (S_call (H1 := []) hs rfl Tryz.func10 rfl (by kernel_rfl) (do_eq _ hq ⟨_, _, rfl, ho1, ho2⟩ hb12 hl hm) fun v1 G' H' _ hR hG13 hs => ?_)
  obtain ⟨rfl, u, rfl, hu⟩ := hR
  replace hs : St _ _ [_] _ := hs
  replace ho1 := ho1.mono hG13
  replace ho2 := ho2.mono hG13
  replace hm := hm.mono hG13
  replace hb12 := hb12.mono hG13
  refine O_y hs (Y_move rfl ?_)
  refine O_y hs (Y_extract rfl rfl ?_)
  refine O_y hs (Y_extract rfl rfl ?_)
  refine O_y hs (Y_assign rfl ?_)
  refine O_y hs (Y_assign rfl ?_)
  refine O_nil (T_sub [(2, _), (7, _), (8, _)] ⟨rfl, rfl, rfl, trivial⟩ ?_)
  refine T_seq (T_region rfl ?_)
  refine O_y hs (Y_move rfl ?_)
  refine O_y hs (Y_move rfl ?_)
  refine O_yy 17 hs rfl rfl (Y_move rfl ?_)
  refine O_yy 17 hs rfl rfl (Y_str Tryz.underlying22 Tryz.underlying5 Tryz.underlying9 rfl hu ?_)
  refine O_yy 17 hs rfl rfl (Y_move rfl ?_)
  refine O_yy 17 hs rfl rfl (Y_strEq rfl rfl (b := true) (by simp) ?_)
  refine O_y hs (Y_pickT rfl rfl ?_)
  refine O_y hs (Y_assign rfl ?_)
  refine O_nil (T_sub [(6, _)] ⟨rfl, trivial⟩ ?_)
  refine T_ret ?_
  refine Rt_fin (vs := [_]) Tryz.results26 rfl ⟨rfl, trivial⟩ ?_
  try dsimp only [tup]
  exact ⟨_, [], hs.done, rfl, rfl⟩

set_option maxHeartbeats 1000000 in
set_option maxRecDepth 10000 in
theorem sanity_ok {G : Ghost} (hT : Tab G) (hm : MaxL G) :
    FnOk Tryz.prog 8 [] G [] fun r _ H' => H' = [] ∧ r = .bool true := by
  refine FnOk.of_T [] Tryz.func8 rfl Tryz.ntmps8 (by simp) rfl fun w0 hs => ?_
  have hT0 := hT
  have hm0 := hm
  refine T_seq (T_region rfl ?_)
  refine O_y hs (Y_assign rfl ?_)
  refine O_nil (T_sub [] trivial ?_)
  refine T_seq (T_region rfl ?_)
  refine O_y hs (Y_build Tryz.zeroValue24 rfl PL24 rfl (cs := [_, _, _]) rfl ?_)
  refine O_s (S_lit hs Tryz.underlying22 Tryz.sizeOf5 Tryz.zeroValue5 rfl rfl (by decide) (by decide) rfl (cs := [_, _, _]) rfl rfl fun v1 _ hs shv1 => ?_)
  obtain ⟨bx10, rfl⟩ := id shv1
  refine O_s (S_mark hs shv1 rfl Tryz.underlying22 Tryz.underlying5 noM fun _ _ hG11 hl11 hs => ?_)
  replace hT := hT.mono hG11
  replace hm := hm.mono hG11
  refine O_s (S_call (H1 := []) hs rfl Tryz.func10 rfl (by kernel_rfl) (do_eq (o := ⟨3, [], []⟩) (b := [53, 37, 52]) none (by decide +kernel) ⟨_, _, rfl, Sl.nil _ _, Sl.nil _ _⟩ (Bytes.ofSl (bs := [53, 37, 52]) hl11 rfl rfl) (by decide) hm) fun v2 G' H' _ hR hG12 hs => ?_)
  obtain ⟨rfl, u12, rfl, hu12⟩ := hR
  replace hs : St _ _ [] _ := hs
  replace hT := hT.mono hG12
  replace hm := hm.mono hG12
  replace hl11 := hl11.mono hG12
  refine O_y hs (Y_move rfl ?_)
  refine O_y hs (Y_extract rfl rfl ?_)
  refine O_y hs (Y_extract rfl rfl ?_)
  refine O_y hs (Y_assign rfl ?_)
  refine O_y hs (Y_assign rfl ?_)
  refine O_nil (T_sub [(2, _)] ⟨rfl, trivial⟩ ?_)
  refine T_seq (T_region rfl ?_)
  refine O_s (S_lit hs Tryz.underlying22 Tryz.sizeOf5 Tryz.zeroValue5 rfl rfl (by decide) (by decide) rfl (cs := [_, _]) rfl rfl fun v3 _ hs shv3 => ?_)
  obtain ⟨bx16, rfl⟩ := id shv3
  refine O_s (S_mark hs shv3 rfl Tryz.underlying22 Tryz.underlying5 noM fun _ _ hG17 hl17 hs => ?_)
  replace hT := hT.mono hG17
  replace hm := hm.mono hG17
  replace hl11 := hl11.mono hG17
  refine O_s (S_lit hs Tryz.underlying22 Tryz.sizeOf5 Tryz.zeroValue5 rfl rfl (by decide) (by decide) rfl (cs := [_]) rfl rfl fun v4 _ hs shv4 => ?_)
  obtain ⟨bx18, rfl⟩ := id shv4
  refine O_s (S_mark hs shv4 rfl Tryz.underlying22 Tryz.underlying5 noM fun _ _ hG19 hl19 hs => ?_)
  replace hT := hT.mono hG19
  replace hm := hm.mono hG19
  replace hl11 := hl11.mono hG19
  replace hl17 := hl17.mono hG19
  refine O_y hs (Y_build Tryz.zeroValue24 rfl PL24 rfl (cs := [_, _, _]) rfl ?_)
  refine O_s (S_call (H1 := []) hs rfl Tryz.func18 rfl (by kernel_rfl) (mach_aa ⟨_, _, rfl, (Bytes.ofSl (bs := [97, 97]) hl17 rfl rfl), (Bytes.ofSl (bs := [98]) hl19 rfl rfl)⟩) fun v5 G' H' _ hR hG21 hs => ?_)
  obtain ⟨rfl, u21, rfl, htr⟩ := hR
  replace hs : St _ _ [] _ := hs
  replace hT := hT.mono hG21
  replace hm := hm.mono hG21
  replace hl11 := hl11.mono hG21
  replace hl17 := hl17.mono hG21
  replace hl19 := hl19.mono hG21
  obtain ⟨w1, w2, w3, w4, rfl, _⟩ := id htr
  refine O_y hs (Y_move rfl ?_)
  refine O_y hs (Y_extract rfl rfl ?_)
  refine O_y hs (Y_extract rfl rfl ?_)
  refine O_s (S_alloc hs Tryz.zeroValue43 (cs := [_, _, _, _]) rfl fun b3 _ hs => ?_)
  refine O_n (S_stA hs Tryz.sizeOf43 rfl rfl (vs := [_, _, _, _]) rfl (htr.ones) (by simp) (cs' := [_, _, _, _]) rfl fun _ hs => ?_)
  refine O_y hs (Y_assign rfl ?_)
  refine O_nil (T_sub [(2, _), (3, _), (4, _)] ⟨rfl, rfl, rfl, trivial⟩ ?_)
  refine T_seq (T_region rfl ?_)
  refine O_y hs (Y_ldA 0 Tryz.isAgg43 Tryz.sizeOf43 rfl rfl (vs := [_, _, _, _]) rfl rfl ?_)
  refine O_s (S_lit hs Tryz.underlying22 Tryz.sizeOf5 Tryz.zeroValue5 rfl rfl (by decide) (by decide) rfl (cs := [_, _, _, _, _]) rfl rfl fun v6 _ hs shv6 => ?_)
  obtain ⟨bx26, rfl⟩ := id shv6
  refine O_s (S_mark hs shv6 rfl Tryz.underlying22 Tryz.underlying5 noM fun _ _ hG27 hl27 hs => ?_)
  replace hT := hT.mono hG27
  replace hm := hm.mono hG27
  replace hl11 := hl11.mono hG27
  replace hl17 := hl17.mono hG27
  replace hl19 := hl19.mono hG27
  replace htr := htr.mono hG27
  refine O_s (S_call (H1 := []) hs rfl Tryz.func20 rfl (by kernel_rfl) (run_eq (b := [97, 97, 97, 97, 97]) (some [98, 98, 97]) (by decide +kernel) htr (Bytes.ofSl (bs := [97, 97, 97, 97, 97]) hl27 rfl rfl) trAA_small hT (by decide)) fun v7 G' H' _ hR hG28 hs => ?_)
  obtain ⟨rfl, u28, rfl, hu28⟩ := hR
  replace hs : St _ _ [_] _ := hs
  replace hT := hT.mono hG28
  replace hm := hm.mono hG28
  replace hl11 := hl11.mono hG28
  replace hl17 := hl17.mono hG28
  replace hl19 := hl19.mono hG28
  replace htr := htr.mono hG28
  replace hl27 := hl27.mono hG28
  refine O_y hs (Y_move rfl ?_)
  refine O_y hs (Y_extract rfl rfl ?_)
  refine O_y hs (Y_extract rfl rfl ?_)
  refine O_y hs (Y_assign rfl ?_)
  refine O_y hs (Y_assign rfl ?_)
  refine O_nil (T_sub [(2, _), (4, _), (5, _), (6, _)] ⟨rfl, rfl, rfl, rfl, trivial⟩ ?_)
  refine T_seq (T_region rfl ?_)
  refine O_y hs (Y_buildA Tryz.underlying27 Tryz.sizeOf25 Tryz.zeroValue27 rfl rfl (cs := [_, _, _, _]) rfl ?_)
  refine O_s (S_alloc hs Tryz.zeroValue27 (cs := [_, _, _, _]) rfl fun b7 _ hs => ?_)
  refine O_n (S_stA hs Tryz.sizeOf27 rfl rfl (vs := [_, _, _, _]) rfl (rfl) (by simp) (cs' := [_, _, _, _]) rfl fun _ hs => ?_)
  refine O_nil (T_sub [(2, _), (4, _), (5, _), (6, _), (7, _)] ⟨rfl, rfl, rfl, rfl, rfl, trivial⟩ ?_)
  refine T_seq (T_region rfl ?_)
  refine O_y hs (Y_move rfl ?_)
  refine O_y hs (Y_not rfl ?_)
  refine O_y hs (Y_move rfl ?_)
  refine O_yy 34 hs rfl rfl (Y_move rfl ?_)
  refine O_yy 34 hs rfl rfl (Y_cmpT rfl rfl rfl (by decide) ?_)
  refine O_y hs (Y_pickT rfl rfl ?_)
  refine O_y hs (Y_move rfl ?_)
  refine O_yy 38 hs rfl rfl (Y_move rfl ?_)
  refine O_y hs (Y_pickT rfl rfl ?_)
  refine O_y hs (Y_move rfl ?_)
  refine O_yy 41 hs rfl rfl (Y_move rfl ?_)
  refine O_yy 41 hs rfl rfl (Y_str Tryz.underlying22 Tryz.underlying5 Tryz.underlying9 rfl hu28 ?_)
  refine O_yy 41 hs rfl rfl (Y_strEq rfl rfl (b := true) (by decide) ?_)
  refine O_y hs (Y_pickT rfl rfl ?_)
  refine O_y hs (Y_move rfl ?_)
  refine O_yy 46 hs rfl rfl (Y_build Tryz.zeroValue24 rfl PL24 rfl (cs := [_, _, _]) rfl ?_)
  refine O_yes 46 rfl rfl (S_call (H1 := []) hs rfl Tryz.func26 rfl (by kernel_rfl) (does_ok (o := ⟨1, [], []⟩) (s := [97, 66, 45, 90]) (w := [97, 98, 45, 122]) (by decide +kernel) ⟨_, _, rfl, Sl.nil _ _, Sl.nil _ _⟩ (by decide) hm) fun v8 G' H' _ hR hG48 hs => ?_)
  obtain ⟨rfl, rfl⟩ := hR
  replace hs : St _ _ [_, _] _ := hs
  replace hT := hT.mono hG48
  replace hm := hm.mono hG48
  replace hl11 := hl11.mono hG48
  replace hl17 := hl17.mono hG48
  replace hl19 := hl19.mono hG48
  replace htr := htr.mono hG48
  replace hl27 := hl27.mono hG48
  replace hu28 := hu28.mono hG48
  refine O_y hs (Y_pickT rfl rfl ?_)
  refine O_y hs (Y_move rfl ?_)
  refine O_yy 50 hs rfl rfl (Y_build Tryz.zeroValue24 rfl PL24 rfl (cs := [_, _, _]) rfl ?_)
  refine O_yes 50 rfl rfl (S_call (H1 := []) hs rfl Tryz.func26 rfl (by kernel_rfl) (does_ok (o := ⟨3, [], []⟩) (s := [97, 37, 52, 49, 37, 50, 102]) (w := [97, 65, 47]) (by decide +kernel) ⟨_, _, rfl, Sl.nil _ _, Sl.nil _ _⟩ (by decide) hm) fun v9 G' H' _ hR hG52 hs => ?_)
  obtain ⟨rfl, rfl⟩ := hR
  replace hs : St _ _ [_, _] _ := hs
  replace hT := hT.mono hG52
  replace hm := hm.mono hG52
  replace hl11 := hl11.mono hG52
  replace hl17 := hl17.mono hG52
  replace hl19 := hl19.mono hG52
  replace htr := htr.mono hG52
  replace hl27 := hl27.mono hG52
  replace hu28 := hu28.mono hG52
  refine O_y hs (Y_pickT rfl rfl ?_)
  refine O_y hs (Y_move rfl ?_)
  refine O_yy 54 hs rfl rfl (Y_build Tryz.zeroValue24 rfl PL24 rfl (cs := [_, _, _]) rfl ?_)
  refine O_yes 54 rfl rfl (S_call (H1 := []) hs rfl Tryz.func26 rfl (by kernel_rfl) (does_ok (o := ⟨4, [], []⟩) (s := [37, 52, 37, 52, 49]) (w := [37, 52, 65]) (by decide +kernel) ⟨_, _, rfl, Sl.nil _ _, Sl.nil _ _⟩ (by decide) hm) fun v10 G' H' _ hR hG56 hs => ?_)
  obtain ⟨rfl, rfl⟩ := hR
  replace hs : St _ _ [_, _] _ := hs
  replace hT := hT.mono hG56
  replace hm := hm.mono hG56
  replace hl11 := hl11.mono hG56
  replace hl17 := hl17.mono hG56
  replace hl19 := hl19.mono hG56
  replace htr := htr.mono hG56
  replace hl27 := hl27.mono hG56
  replace hu28 := hu28.mono hG56
  refine O_y hs (Y_pickT rfl rfl ?_)
  refine O_y hs (Y_move rfl ?_)
  refine O_yes 58 rfl rfl (S_lit hs Tryz.underlying22 Tryz.sizeOf5 Tryz.zeroValue5 rfl rfl (by decide) (by decide) rfl (cs := [_, _]) rfl rfl fun v11 _ hs shv11 => ?_)
  obtain ⟨bx59, rfl⟩ := id shv11
  refine O_yes 58 rfl rfl (S_mark hs shv11 rfl Tryz.underlying22 Tryz.underlying5 noM fun _ _ hG60 hl60 hs => ?_)
  replace hT := hT.mono hG60
  replace hm := hm.mono hG60
  replace hl11 := hl11.mono hG60
  replace hl17 := hl17.mono hG60
  replace hl19 := hl19.mono hG60
  replace htr := htr.mono hG60
  replace hl27 := hl27.mono hG60
  replace hu28 := hu28.mono hG60
  refine O_yes 58 rfl rfl (S_lit hs Tryz.underlying22 Tryz.sizeOf5 Tryz.zeroValue5 rfl rfl (by decide) (by decide) rfl (cs := [_]) rfl rfl fun v12 _ hs shv12 => ?_)
  obtain ⟨bx61, rfl⟩ := id shv12
  refine O_yes 58 rfl rfl (S_mark hs shv12 rfl Tryz.underlying22 Tryz.underlying5 noM fun _ _ hG62 hl62 hs => ?_)
  replace hT := hT.mono hG62
  replace hm := hm.mono hG62
  replace hl11 := hl11.mono hG62
  replace hl17 := hl17.mono hG62
  replace hl19 := hl19.mono hG62
  replace htr := htr.mono hG62
  replace hl27 := hl27.mono hG62
  replace hu28 := hu28.mono hG62
  replace hl60 := hl60.mono hG62
  refine O_yy 58 hs rfl rfl (Y_build Tryz.zeroValue24 rfl PL24 rfl (cs := [_, _, _]) rfl ?_)
  refine O_yes 58 rfl rfl (S_call (H1 := []) hs rfl Tryz.func26 rfl (by kernel_rfl) (does_ok (o := ⟨5, [97, 97], [98]⟩) (s := [97, 97, 97, 97]) (w := [98, 97, 97]) (by decide +kernel) ⟨_, _, rfl, (Bytes.ofSl (bs := [97, 97]) hl60 rfl rfl), (Bytes.ofSl (bs := [98]) hl62 rfl rfl)⟩ (by decide) hm) fun v13 G' H' _ hR hG64 hs => ?_)
  obtain ⟨rfl, rfl⟩ := hR
  replace hs : St _ _ [_, _] _ := hs
  replace hT := hT.mono hG64
  replace hm := hm.mono hG64
  replace hl11 := hl11.mono hG64
  replace hl17 := hl17.mono hG64
  replace hl19 := hl19.mono hG64
  replace htr := htr.mono hG64
  replace hl27 := hl27.mono hG64
  replace hu28 := hu28.mono hG64
  replace hl60 := hl60.mono hG64
  replace hl62 := hl62.mono hG64
  refine O_y hs (Y_pickT rfl rfl ?_)
  refine O_y hs (Y_move rfl ?_)
  refine O_yes 66 rfl rfl (S_lit hs Tryz.underlying22 Tryz.sizeOf5 Tryz.zeroValue5 rfl rfl (by decide) (by decide) rfl (cs := [_, _]) rfl rfl fun v14 _ hs shv14 => ?_)
  obtain ⟨bx67, rfl⟩ := id shv14
  refine O_yes 66 rfl rfl (S_mark hs shv14 rfl Tryz.underlying22 Tryz.underlying5 noM fun _ _ hG68 hl68 hs => ?_)
  replace hT := hT.mono hG68
  replace hm := hm.mono hG68
  replace hl11 := hl11.mono hG68
  replace hl17 := hl17.mono hG68
  replace hl19 := hl19.mono hG68
  replace htr := htr.mono hG68
  replace hl27 := hl27.mono hG68
  replace hu28 := hu28.mono hG68
  replace hl60 := hl60.mono hG68
  replace hl62 := hl62.mono hG68
  refine O_yy 66 hs rfl rfl (Y_build Tryz.zeroValue24 rfl PL24 rfl (cs := [_, _, _]) rfl ?_)
  refine O_yes 66 rfl rfl (S_call (H1 := []) hs rfl Tryz.func26 rfl (by kernel_rfl) (does_ok (o := ⟨7, [120, 121], []⟩) (s := [97, 120, 98, 121, 120]) (w := [97, 98]) (by decide +kernel) ⟨_, _, rfl, (Bytes.ofSl (bs := [120, 121]) hl68 rfl rfl), Sl.nil _ _⟩ (by decide) hm) fun v15 G' H' _ hR hG70 hs => ?_)
  obtain ⟨rfl, rfl⟩ := hR
  replace hs : St _ _ [_, _] _ := hs
  replace hT := hT.mono hG70
  replace hm := hm.mono hG70
  replace hl11 := hl11.mono hG70
  replace hl17 := hl17.mono hG70
  replace hl19 := hl19.mono hG70
  replace htr := htr.mono hG70
  replace hl27 := hl27.mono hG70
  replace hu28 := hu28.mono hG70
  replace hl60 := hl60.mono hG70
  replace hl62 := hl62.mono hG70
  replace hl68 := hl68.mono hG70
  refine O_y hs (Y_pickT rfl rfl ?_)
  refine O_y hs (Y_move rfl ?_)
  refine O_yes 72 rfl rfl (S_lit hs Tryz.underlying22 Tryz.sizeOf5 Tryz.zeroValue5 rfl rfl (by decide) (by decide) rfl (cs := [_]) rfl rfl fun v16 _ hs shv16 => ?_)
  obtain ⟨bx73, rfl⟩ := id shv16
  refine O_yes 72 rfl rfl (S_mark hs shv16 rfl Tryz.underlying22 Tryz.underlying5 noM fun _ _ hG74 hl74 hs => ?_)
  replace hT := hT.mono hG74
  replace hm := hm.mono hG74
  replace hl11 := hl11.mono hG74
  replace hl17 := hl17.mono hG74
  replace hl19 := hl19.mono hG74
  replace htr := htr.mono hG74
  replace hl27 := hl27.mono hG74
  replace hu28 := hu28.mono hG74
  replace hl60 := hl60.mono hG74
  replace hl62 := hl62.mono hG74
  replace hl68 := hl68.mono hG74
  refine O_yy 72 hs rfl rfl (Y_build Tryz.zeroValue24 rfl PL24 rfl (cs := [_, _, _]) rfl ?_)
  refine O_yes 72 rfl rfl (S_call (H1 := []) hs rfl Tryz.func26 rfl (by kernel_rfl) (does_ok (o := ⟨8, [47], []⟩) (s := [97, 47, 47, 98, 47, 47, 47, 99, 47]) (w := [97, 47, 98, 47, 99, 47]) (by decide +kernel) ⟨_, _, rfl, (Bytes.ofSl (bs := [47]) hl74 rfl rfl), Sl.nil _ _⟩ (by decide) hm) fun v17 G' H' _ hR hG76 hs => ?_)
  obtain ⟨rfl, rfl⟩ := hR
  replace hs : St _ _ [_, _] _ := hs
  replace hT := hT.mono hG76
  replace hm := hm.mono hG76
  replace hl11 := hl11.mono hG76
  replace hl17 := hl17.mono hG76
  replace hl19 := hl19.mono hG76
  replace htr := htr.mono hG76
  replace hl27 := hl27.mono hG76
  replace hu28 := hu28.mono hG76
  replace hl60 := hl60.mono hG76
  replace hl62 := hl62.mono hG76
  replace hl68 := hl68.mono hG76
  replace hl74 := hl74.mono hG76
  refine O_y hs (Y_pickT rfl rfl ?_)
  refine O_y hs (Y_move rfl ?_)
  refine O_yy 78 hs rfl rfl (Y_ldA 0 Tryz.isAgg27 Tryz.sizeOf27 rfl rfl (vs := [_, _, _, _]) rfl rfl ?_)
  refine O_yes 78 rfl rfl (S_lit hs Tryz.underlying22 Tryz.sizeOf5 Tryz.zeroValue5 rfl rfl (by decide) (by decide) rfl (cs := [_, _, _, _, _, _]) rfl rfl fun v18 _ hs shv18 => ?_)
  obtain ⟨bx80, rfl⟩ := id shv18
  refine O_yes 78 rfl rfl (S_mark hs shv18 rfl Tryz.underlying22 Tryz.underlying5 noM fun _ _ hG81 hl81 hs => ?_)
  replace hT := hT.mono hG81
  replace hm := hm.mono hG81
  replace hl11 := hl11.mono hG81
  replace hl17 := hl17.mono hG81
  replace hl19 := hl19.mono hG81
  replace htr := htr.mono hG81
  replace hl27 := hl27.mono hG81
  replace hu28 := hu28.mono hG81
  replace hl60 := hl60.mono hG81
  replace hl62 := hl62.mono hG81
  replace hl68 := hl68.mono hG81
  replace hl74 := hl74.mono hG81
  refine O_yes 78 rfl rfl (S_call (H1 := []) hs rfl Tryz.func15 rfl (by kernel_rfl) (trim_ok (c := [4294967296, 0, 0, 0]) rfl (Bytes.ofSl (bs := [32, 32, 97, 32, 98, 32]) hl81 rfl rfl) (by decide)) fun v19 G' H' _ hR hG82 hs => ?_)
  obtain ⟨rfl, hu82⟩ := hR
  replace hs : St _ _ [_, _] _ := hs
  replace hT := hT.mono hG82
  replace hm := hm.mono hG82
  replace hl11 := hl11.mono hG82
  replace hl17 := hl17.mono hG82
  replace hl19 := hl19.mono hG82
  replace htr := htr.mono hG82
  replace hl27 := hl27.mono hG82
  replace hu28 := hu28.mono hG82
  replace hl60 := hl60.mono hG82
  replace hl62 := hl62.mono hG82
  replace hl68 := hl68.mono hG82
  replace hl74 := hl74.mono hG82
  replace hl81 := hl81.mono hG82
  replace hu82 : Bytes _ _ [97, 32, 98] := Bytes.cast (by decide +kernel) hu82
  refine O_yy 78 hs rfl rfl (Y_str Tryz.underlying22 Tryz.underlying5 Tryz.underlying9 rfl hu82 ?_)
  refine O_yy 78 hs rfl rfl (Y_strEq rfl rfl (b := true) (by decide) ?_)
  refine O_y hs (Y_pickT rfl rfl ?_)
  refine O_y hs (Y_move rfl ?_)
  refine O_yy 86 hs rfl rfl (Y_build Tryz.zeroValue24 rfl PL24 rfl (cs := [_, _, _]) rfl ?_)
  refine O_yes 86 rfl rfl (S_call (H1 := []) hs rfl Tryz.func12 rfl (by kernel_rfl) (valid_ok (o := ⟨9, [], []⟩) ⟨_, _, rfl, Sl.nil _ _, Sl.nil _ _⟩) fun v20 G' H' _ hR hG88 hs => ?_)
  obtain ⟨rfl, rfl⟩ := hR
  replace hs : St _ _ [_, _] _ := hs
  replace hT := hT.mono hG88
  replace hm := hm.mono hG88
  replace hl11 := hl11.mono hG88
  replace hl17 := hl17.mono hG88
  replace hl19 := hl19.mono hG88
  replace htr := htr.mono hG88
  replace hl27 := hl27.mono hG88
  replace hu28 := hu28.mono hG88
  replace hl60 := hl60.mono hG88
  replace hl62 := hl62.mono hG88
  replace hl68 := hl68.mono hG88
  replace hl74 := hl74.mono hG88
  replace hl81 := hl81.mono hG88
  replace hu82 := hu82.mono hG88
  rw [show (if validO ⟨9, [], []⟩ = true then (0 : Int) else 1) = 1 by decide]
  refine O_yy 86 hs rfl rfl (Y_cmpT rfl rfl rfl (by decide) ?_)
  refine O_y hs (Y_pickT rfl rfl ?_)
  refine O_y hs (Y_assign rfl ?_)
  refine O_nil (T_sub [(0, _)] ⟨rfl, trivial⟩ ?_)
  refine T_ret ?_
  refine Rt_fin (vs := [_]) Tryz.results8 rfl ⟨rfl, trivial⟩ ?_
  try dsimp only [tup]
  exact ⟨_, [], hs.done, rfl, rfl⟩

end Go.Proofs.YtffbfibpfnlfeaaGreatDoor
