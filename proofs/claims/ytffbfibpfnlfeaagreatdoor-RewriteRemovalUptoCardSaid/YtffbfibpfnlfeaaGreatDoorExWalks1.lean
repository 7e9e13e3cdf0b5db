import Derived.Test.YtffbfibpfnlfeaaGreatDoorProg
import Derived.Test.YtffbfibpfnlfeaaGreatDoorPlain
import Derived.Test.YtffbfibpfnlfeaaGreatDoorShelf
namespace Go.Proofs.YtffbfibpfnlfeaaGreatDoor
open Go Go.Ex Go.RowKit
theorem FO24_0 : fieldOff Tryz.prog 24 0 = some 0 := by kernel_rfl
theorem FO24_1 : fieldOff Tryz.prog 24 1 = some 1 := by kernel_rfl
theorem FO24_2 : fieldOff Tryz.prog 24 2 = some 2 := by kernel_rfl
theorem PL60 : places Tryz.prog 60 = some [(0, 1)] := by kernel_rfl
theorem TI5 : TI Tryz.prog 5 (.int .u8 0) 1 1 := TI.of (by kernel_rfl)

set_option maxHeartbeats 400000 in
set_option maxRecDepth 10000 in
theorem lower_ok {G : Ghost} {x : UInt8} :
    FnOk Tryz.prog 38 [.int .u8 (x.toNat : Int)] G [] fun r _ H' => H' = [] ∧ r = .int .u8 ((lowerF x).toNat : Int) := by
  have hx := x.toNat_lt
  refine FnOk.of_T [(0, _)] Tryz.func38 rfl Tryz.ntmps38 (by simp) rfl fun w0 hs => ?_
  refine T_seq (T_region rfl ?_)
  refine O_y hs (Y_assign rfl ?_)
  refine O_nil (T_sub [(0, _)] ⟨rfl, trivial⟩ ?_)
  refine T_seq (T_seq (T_region rfl ?_))
  refine O_y hs (Y_move rfl ?_)
  refine O_y hs (Y_cmpS rfl rfl rfl (fun h4 => ?_) (fun h4 => ?_))
  · -- h4: True
    dsimp only [cmpP] at h4
    refine O_y hs (Y_move rfl ?_)
    refine O_yy 5 hs rfl rfl (Y_move rfl ?_)
    refine O_yy 5 hs rfl rfl (Y_cmpS rfl rfl rfl (fun h7 => ?_) (fun h7 => ?_))
    · -- h7: True
      dsimp only [cmpP] at h7
      refine O_y hs (Y_pickT rfl rfl ?_)
      refine O_nil (T_sub [(0, _), (8, _)] ⟨rfl, rfl, trivial⟩ ?_)
      refine T_condT rfl (T_seq (T_region rfl ?_))
      refine O_y hs (Y_move rfl ?_)
      refine O_y hs (Y_addW rfl rfl ?_)
      refine O_y hs (Y_subW rfl rfl ?_)
      refine O_y hs (Y_assign rfl ?_)
      refine O_nil (T_sub [(2, _)] ⟨rfl, trivial⟩ ?_)
      refine T_ret ?_
      refine Rt_fin (vs := [_]) Tryz.results38 rfl ⟨rfl, trivial⟩ ?_
      try dsimp only [tup]
      exact ⟨_, [], hs.done, rfl, congrArg (Value.int .u8) (by rw [IntKind.wrap_u8, IntKind.wrap_u8, lowerF_t (by omega)]; omega)⟩
    · -- h7: False
      dsimp only [cmpP] at h7
      refine O_y hs (Y_pickT rfl rfl ?_)
      refine O_nil (T_sub [(0, _), (8, _)] ⟨rfl, rfl, trivial⟩ ?_)
      refine T_condF rfl (T_skip ?_)
      refine T_seq (T_region rfl ?_)
      refine O_y hs (Y_move rfl ?_)
      refine O_y hs (Y_assign rfl ?_)
      refine O_nil (T_sub [(2, _)] ⟨rfl, trivial⟩ ?_)
      refine T_ret ?_
      refine Rt_fin (vs := [_]) Tryz.results38 rfl ⟨rfl, trivial⟩ ?_
      try dsimp only [tup]
      exact ⟨_, [], hs.done, rfl, congrArg (Value.int .u8) (by rw [lowerF_f (by omega)])⟩
  · -- h4: False
    dsimp only [cmpP] at h4
    refine O_y hs (Y_move rfl ?_)
    refine O_no 5 rfl rfl ?_
    refine O_no 5 rfl rfl ?_
    refine O_y hs (Y_pickF rfl rfl ?_)
    refine O_nil (T_sub [(0, _), (8, _)] ⟨rfl, rfl, trivial⟩ ?_)
    refine T_condF rfl (T_skip ?_)
    refine T_seq (T_region rfl ?_)
    refine O_y hs (Y_move rfl ?_)
    refine O_y hs (Y_assign rfl ?_)
    refine O_nil (T_sub [(2, _)] ⟨rfl, trivial⟩ ?_)
    refine T_ret ?_
    refine Rt_fin (vs := [_]) Tryz.results38 rfl ⟨rfl, trivial⟩ ?_
    try dsimp only [tup]
    exact ⟨_, [], hs.done, rfl, congrArg (Value.int .u8) (by rw [lowerF_f (by omega)])⟩

set_option maxHeartbeats 400000 in
set_option maxRecDepth 10000 in
theorem upper_ok {G : Ghost} {x : UInt8} :
    FnOk Tryz.prog 39 [.int .u8 (x.toNat : Int)] G [] fun r _ H' => H' = [] ∧ r = .int .u8 ((upperF x).toNat : Int) := by
  have hx := x.toNat_lt
  refine FnOk.of_T [(0, _)] Tryz.func39 rfl Tryz.ntmps39 (by simp) rfl fun w0 hs => ?_
  refine T_seq (T_region rfl ?_)
  refine O_y hs (Y_assign rfl ?_)
  refine O_nil (T_sub [(0, _)] ⟨rfl, trivial⟩ ?_)
  refine T_seq (T_seq (T_region rfl ?_))
  refine O_y hs (Y_move rfl ?_)
  refine O_y hs (Y_cmpS rfl rfl rfl (fun h4 => ?_) (fun h4 => ?_))
  · -- h4: True
    dsimp only [cmpP] at h4
    refine O_y hs (Y_move rfl ?_)
    refine O_yy 5 hs rfl rfl (Y_move rfl ?_)
    refine O_yy 5 hs rfl rfl (Y_cmpS rfl rfl rfl (fun h7 => ?_) (fun h7 => ?_))
    · -- h7: True
      dsimp only [cmpP] at h7
      refine O_y hs (Y_pickT rfl rfl ?_)
      refine O_nil (T_sub [(0, _), (8, _)] ⟨rfl, rfl, trivial⟩ ?_)
      refine T_condT rfl (T_seq (T_region rfl ?_))
      refine O_y hs (Y_move rfl ?_)
      refine O_y hs (Y_subW rfl rfl ?_)
      refine O_y hs (Y_assign rfl ?_)
      refine O_nil (T_sub [(2, _)] ⟨rfl, trivial⟩ ?_)
      refine T_ret ?_
      refine Rt_fin (vs := [_]) Tryz.results39 rfl ⟨rfl, trivial⟩ ?_
      try dsimp only [tup]
      exact ⟨_, [], hs.done, rfl, congrArg (Value.int .u8) (by rw [IntKind.wrap_u8, upperF_t (by omega)]; omega)⟩
    · -- h7: False
      dsimp only [cmpP] at h7
      refine O_y hs (Y_pickT rfl rfl ?_)
      refine O_nil (T_sub [(0, _), (8, _)] ⟨rfl, rfl, trivial⟩ ?_)
      refine T_condF rfl (T_skip ?_)
      refine T_seq (T_region rfl ?_)
      refine O_y hs (Y_move rfl ?_)
      refine O_y hs (Y_assign rfl ?_)
      refine O_nil (T_sub [(2, _)] ⟨rfl, trivial⟩ ?_)
      refine T_ret ?_
      refine Rt_fin (vs := [_]) Tryz.results39 rfl ⟨rfl, trivial⟩ ?_
      try dsimp only [tup]
      exact ⟨_, [], hs.done, rfl, congrArg (Value.int .u8) (by rw [upperF_f (by omega)])⟩
  · -- h4: False
    dsimp only [cmpP] at h4
    refine O_y hs (Y_move rfl ?_)
    refine O_no 5 rfl rfl ?_
    refine O_no 5 rfl rfl ?_
    refine O_y hs (Y_pickF rfl rfl ?_)
    refine O_nil (T_sub [(0, _), (8, _)] ⟨rfl, rfl, trivial⟩ ?_)
    refine T_condF rfl (T_skip ?_)
    refine T_seq (T_region rfl ?_)
    refine O_y hs (Y_move rfl ?_)
    refine O_y hs (Y_assign rfl ?_)
    refine O_nil (T_sub [(2, _)] ⟨rfl, trivial⟩ ?_)
    refine T_ret ?_
    refine Rt_fin (vs := [_]) Tryz.results39 rfl ⟨rfl, trivial⟩ ?_
    try dsimp only [tup]
    exact ⟨_, [], hs.done, rfl, congrArg (Value.int .u8) (by rw [upperF_f (by omega)])⟩

set_option maxHeartbeats 400000 in
set_option maxRecDepth 10000 in
theorem hex_ok {G : Ghost} {x : UInt8} :
    FnOk Tryz.prog 73 [.int .u8 (x.toNat : Int)] G [] fun r _ H' => H' = [] ∧ r = .tuple #[.int .u8 (((hexF x).getD 0).toNat : Int), .bool (hexF x).isSome] := by
  have hx := (lowerF x).toNat_lt
  refine FnOk.of_T [(0, _)] Tryz.func73 rfl Tryz.ntmps73 (by simp) rfl fun w0 hs => ?_
  refine T_seq (T_region rfl ?_)
  refine O_y hs (Y_assign rfl ?_)
  refine O_y hs (Y_assign rfl ?_)
  refine O_nil (T_sub [(0, _)] ⟨rfl, trivial⟩ ?_)
  refine T_seq (T_seq (T_region rfl ?_))
  refine O_y hs (Y_move rfl ?_)
  refine O_s (S_call (H1 := []) hs rfl Tryz.func38 rfl (by kernel_rfl) (lower_ok) fun v1 G' H' _ hR hG5 hs => ?_)
  obtain ⟨rfl, rfl⟩ := hR
  replace hs : St _ _ [] _ := hs
  refine O_y hs (Y_assign rfl ?_)
  refine O_nil (T_sub [(0, _)] ⟨rfl, trivial⟩ ?_)
  refine T_block (T_seq (T_region rfl ?_))
  refine O_y hs (Y_move rfl ?_)
  refine O_y hs (Y_cmpS rfl rfl rfl (fun h8 => ?_) (fun h8 => ?_))
  · -- h8: True
    dsimp only [cmpP] at h8
    refine O_y hs (Y_move rfl ?_)
    refine O_yy 9 hs rfl rfl (Y_move rfl ?_)
    refine O_yy 9 hs rfl rfl (Y_cmpS rfl rfl rfl (fun h11 => ?_) (fun h11 => ?_))
    · -- h11: True
      dsimp only [cmpP] at h11
      refine O_y hs (Y_pickT rfl rfl ?_)
      refine O_y hs (Y_assign rfl ?_)
      refine O_nil (T_sub [(0, _), (6, _)] ⟨rfl, rfl, trivial⟩ ?_)
      refine T_condT rfl (T_seq (T_region rfl ?_))
      refine O_y hs (Y_move rfl ?_)
      refine O_y hs (Y_subW rfl rfl ?_)
      refine O_y hs (Y_assign rfl ?_)
      refine O_y hs (Y_assign rfl ?_)
      refine O_nil (T_sub [(2, _), (3, _)] ⟨rfl, rfl, trivial⟩ ?_)
      refine T_ret ?_
      refine Rt_fin (vs := [_, _]) Tryz.results73 rfl ⟨rfl, rfl, trivial⟩ ?_
      try dsimp only [tup]
      obtain ⟨e1, e2⟩ := hexL_1 (y := lowerF x) (by omega)
      refine ⟨_, [], hs.done, rfl, ?_⟩
      unfold hexF; rw [e1, IntKind.wrap_u8]; show Value.tuple #[.int .u8 _, .bool true] = .tuple #[.int .u8 ((lowerF x - 48).toNat : Int), .bool true]; rw [e2]; congr 4; omega
    · -- h11: False
      dsimp only [cmpP] at h11
      refine O_y hs (Y_pickT rfl rfl ?_)
      refine O_y hs (Y_assign rfl ?_)
      refine O_nil (T_sub [(0, _), (6, _)] ⟨rfl, rfl, trivial⟩ ?_)
      refine T_condF rfl (T_seq (T_region rfl ?_))
      refine O_y hs (Y_move rfl ?_)
      refine O_y hs (Y_cmpS rfl rfl rfl (fun h17 => ?_) (fun h17 => ?_))
      · -- h17: True
        dsimp only [cmpP] at h17
        refine O_y hs (Y_move rfl ?_)
        refine O_yy 18 hs rfl rfl (Y_move rfl ?_)
        refine O_yy 18 hs rfl rfl (Y_cmpS rfl rfl rfl (fun h20 => ?_) (fun h20 => ?_))
        · -- h20: True
          dsimp only [cmpP] at h20
          refine O_y hs (Y_pickT rfl rfl ?_)
          refine O_y hs (Y_assign rfl ?_)
          refine O_nil (T_sub [(0, _), (15, _)] ⟨rfl, rfl, trivial⟩ ?_)
          refine T_condT rfl (T_seq (T_region rfl ?_))
          refine O_y hs (Y_move rfl ?_)
          refine O_y hs (Y_subW rfl rfl ?_)
          refine O_y hs (Y_addW rfl rfl ?_)
          refine O_y hs (Y_assign rfl ?_)
          refine O_y hs (Y_assign rfl ?_)
          refine O_nil (T_sub [(2, _), (3, _)] ⟨rfl, rfl, trivial⟩ ?_)
          refine T_ret ?_
          refine Rt_fin (vs := [_, _]) Tryz.results73 rfl ⟨rfl, rfl, trivial⟩ ?_
          try dsimp only [tup]
          obtain ⟨e1, e2⟩ := hexL_2 (y := lowerF x) (by omega)
          refine ⟨_, [], hs.done, rfl, ?_⟩
          unfold hexF; rw [e1, IntKind.wrap_u8, IntKind.wrap_u8]; show Value.tuple #[.int .u8 _, .bool true] = .tuple #[.int .u8 ((lowerF x - 87).toNat : Int), .bool true]; rw [e2]; congr 4; omega
        · -- h20: False
          dsimp only [cmpP] at h20
          refine O_y hs (Y_pickT rfl rfl ?_)
          refine O_y hs (Y_assign rfl ?_)
          refine O_nil (T_sub [(0, _), (15, _)] ⟨rfl, rfl, trivial⟩ ?_)
          refine T_condF rfl (T_skip ?_)
          refine T_seq (T_region rfl ?_)
          refine O_y hs (Y_assign rfl ?_)
          refine O_y hs (Y_assign rfl ?_)
          refine O_nil (T_sub [(2, _), (3, _)] ⟨rfl, rfl, trivial⟩ ?_)
          refine T_ret ?_
          refine Rt_fin (vs := [_, _]) Tryz.results73 rfl ⟨rfl, rfl, trivial⟩ ?_
          try dsimp only [tup]
          have e1 := hexL_3 (y := lowerF x) (by omega) (by omega)
          refine ⟨_, [], hs.done, rfl, ?_⟩
          unfold hexF; rw [e1]; rfl
      · -- h17: False
        dsimp only [cmpP] at h17
        refine O_y hs (Y_move rfl ?_)
        refine O_no 18 rfl rfl ?_
        refine O_no 18 rfl rfl ?_
        refine O_y hs (Y_pickF rfl rfl ?_)
        refine O_y hs (Y_assign rfl ?_)
        refine O_nil (T_sub [(0, _), (15, _)] ⟨rfl, rfl, trivial⟩ ?_)
        refine T_condF rfl (T_skip ?_)
        refine T_seq (T_region rfl ?_)
        refine O_y hs (Y_assign rfl ?_)
        refine O_y hs (Y_assign rfl ?_)
        refine O_nil (T_sub [(2, _), (3, _)] ⟨rfl, rfl, trivial⟩ ?_)
        refine T_ret ?_
        refine Rt_fin (vs := [_, _]) Tryz.results73 rfl ⟨rfl, rfl, trivial⟩ ?_
        try dsimp only [tup]
        have e1 := hexL_3 (y := lowerF x) (by omega) (by omega)
        refine ⟨_, [], hs.done, rfl, ?_⟩
        unfold hexF; rw [e1]; rfl
  · -- h8: False
    dsimp only [cmpP] at h8
    refine O_y hs (Y_move rfl ?_)
    refine O_no 9 rfl rfl ?_
    refine O_no 9 rfl rfl ?_
    refine O_y hs (Y_pickF rfl rfl ?_)
    refine O_y hs (Y_assign rfl ?_)
    refine O_nil (T_sub [(0, _), (6, _)] ⟨rfl, rfl, trivial⟩ ?_)
    refine T_condF rfl (T_seq (T_region rfl ?_))
    refine O_y hs (Y_move rfl ?_)
    refine O_y hs (Y_cmpS rfl rfl rfl (fun h17 => ?_) (fun h17 => ?_))
    · -- h17: True
      dsimp only [cmpP] at h17
      refine O_y hs (Y_move rfl ?_)
      refine O_yy 18 hs rfl rfl (Y_move rfl ?_)
      refine O_yy 18 hs rfl rfl (Y_cmpS rfl rfl rfl (fun h20 => ?_) (fun h20 => ?_))
      · -- h20: True
        dsimp only [cmpP] at h20
        refine O_y hs (Y_pickT rfl rfl ?_)
        refine O_y hs (Y_assign rfl ?_)
        refine O_nil (T_sub [(0, _), (15, _)] ⟨rfl, rfl, trivial⟩ ?_)
        refine T_condT rfl (T_seq (T_region rfl ?_))
        refine O_y hs (Y_move rfl ?_)
        refine O_y hs (Y_subW rfl rfl ?_)
        refine O_y hs (Y_addW rfl rfl ?_)
        refine O_y hs (Y_assign rfl ?_)
        refine O_y hs (Y_assign rfl ?_)
        refine O_nil (T_sub [(2, _), (3, _)] ⟨rfl, rfl, trivial⟩ ?_)
        refine T_ret ?_
        refine Rt_fin (vs := [_, _]) Tryz.results73 rfl ⟨rfl, rfl, trivial⟩ ?_
        try dsimp only [tup]
        obtain ⟨e1, e2⟩ := hexL_2 (y := lowerF x) (by omega)
        refine ⟨_, [], hs.done, rfl, ?_⟩
        unfold hexF; rw [e1, IntKind.wrap_u8, IntKind.wrap_u8]; show Value.tuple #[.int .u8 _, .bool true] = .tuple #[.int .u8 ((lowerF x - 87).toNat : Int), .bool true]; rw [e2]; congr 4; omega
      · -- h20: False
        dsimp only [cmpP] at h20
        refine O_y hs (Y_pickT rfl rfl ?_)
        refine O_y hs (Y_assign rfl ?_)
        refine O_nil (T_sub [(0, _), (15, _)] ⟨rfl, rfl, trivial⟩ ?_)
        refine T_condF rfl (T_skip ?_)
        refine T_seq (T_region rfl ?_)
        refine O_y hs (Y_assign rfl ?_)
        refine O_y hs (Y_assign rfl ?_)
        refine O_nil (T_sub [(2, _), (3, _)] ⟨rfl, rfl, trivial⟩ ?_)
        refine T_ret ?_
        refine Rt_fin (vs := [_, _]) Tryz.results73 rfl ⟨rfl, rfl, trivial⟩ ?_
        try dsimp only [tup]
        have e1 := hexL_3 (y := lowerF x) (by omega) (by omega)
        refine ⟨_, [], hs.done, rfl, ?_⟩
        unfold hexF; rw [e1]; rfl
    · -- h17: False
      dsimp only [cmpP] at h17
      refine O_y hs (Y_move rfl ?_)
      refine O_no 18 rfl rfl ?_
      refine O_no 18 rfl rfl ?_
      refine O_y hs (Y_pickF rfl rfl ?_)
      refine O_y hs (Y_assign rfl ?_)
      refine O_nil (T_sub [(0, _), (15, _)] ⟨rfl, rfl, trivial⟩ ?_)
      refine T_condF rfl (T_skip ?_)
      refine T_seq (T_region rfl ?_)
      refine O_y hs (Y_assign rfl ?_)
      refine O_y hs (Y_assign rfl ?_)
      refine O_nil (T_sub [(2, _), (3, _)] ⟨rfl, rfl, trivial⟩ ?_)
      refine T_ret ?_
      refine Rt_fin (vs := [_, _]) Tryz.results73 rfl ⟨rfl, rfl, trivial⟩ ?_
      try dsimp only [tup]
      have e1 := hexL_3 (y := lowerF x) (by omega) (by omega)
      refine ⟨_, [], hs.done, rfl, ?_⟩
      unfold hexF; rw [e1]; rfl

set_option maxHeartbeats 400000 in
set_option maxRecDepth 10000 in
theorem sizes_ok {G : Ghost} {k : Int} :
    FnOk Tryz.prog 33 [.int .i64 k] G [] fun r _ H' => H' = [] ∧ r = szV k := by
  refine FnOk.of_T [(0, _)] Tryz.func33 rfl Tryz.ntmps33 (by simp) rfl fun w0 hs => ?_
  refine T_seq (T_region rfl ?_)
  refine O_y hs (Y_assign rfl ?_)
  refine O_y hs (Y_assign rfl ?_)
  refine O_y hs (Y_assign rfl ?_)
  refine O_y hs (Y_assign rfl ?_)
  refine O_nil (T_sub [(0, _)] ⟨rfl, trivial⟩ ?_)
  refine T_seq (T_seq (T_region rfl ?_))
  refine O_y hs (Y_move rfl ?_)
  refine O_nil (T_sub [(6, _)] ⟨rfl, trivial⟩ ?_)
  refine T_block (T_seq (T_seq (T_region rfl ?_)))
  refine O_y hs (Y_cmpS rfl rfl rfl (fun h8 => ?_) (fun h8 => ?_))
  · -- h8: True
    dsimp only [cmpP] at h8
    refine O_y hs (Y_assign rfl ?_)
    refine O_nil (T_sub [(6, _), (7, _)] ⟨rfl, rfl, trivial⟩ ?_)
    refine T_condT rfl (T_skip ?_)
    refine T_condT rfl (T_seq (T_region rfl ?_))
    refine O_y hs (Y_assign rfl ?_)
    refine O_y hs (Y_assign rfl ?_)
    refine O_y hs (Y_assign rfl ?_)
    refine O_y hs (Y_assign rfl ?_)
    refine O_nil (T_sub [(2, _), (3, _), (4, _), (5, _)] ⟨rfl, rfl, rfl, rfl, trivial⟩ ?_)
    refine T_ret ?_
    refine Rt_fin (vs := [_, _, _, _]) Tryz.results33 rfl ⟨rfl, rfl, rfl, rfl, trivial⟩ ?_
    try dsimp only [tup]
    refine ⟨_, [], hs.done, rfl, ?_⟩
    unfold szV sizesF; first | (rw [if_pos (by omega)] <;> rfl) | (rw [if_neg (by omega), if_pos (by omega)] <;> rfl) | (rw [if_neg (by omega), if_neg (by omega), if_pos (by omega)] <;> rfl) | (rw [if_neg (by omega), if_neg (by omega), if_neg (by omega), if_pos (by omega)] <;> rfl) | (rw [if_neg (by omega), if_neg (by omega), if_neg (by omega), if_neg (by omega)] <;> rfl)
  · -- h8: False
    dsimp only [cmpP] at h8
    refine O_y hs (Y_assign rfl ?_)
    refine O_nil (T_sub [(6, _), (7, _)] ⟨rfl, rfl, trivial⟩ ?_)
    refine T_condF rfl (T_seq (T_region rfl ?_))
    refine O_y hs (Y_cmpS rfl rfl rfl (fun h9 => ?_) (fun h9 => ?_))
    · -- h9: True
      dsimp only [cmpP] at h9
      refine O_y hs (Y_assign rfl ?_)
      refine O_nil (T_sub [(6, _), (7, _)] ⟨rfl, rfl, trivial⟩ ?_)
      refine T_condT rfl (T_skip ?_)
      refine T_condT rfl (T_seq (T_region rfl ?_))
      refine O_y hs (Y_assign rfl ?_)
      refine O_y hs (Y_assign rfl ?_)
      refine O_y hs (Y_assign rfl ?_)
      refine O_y hs (Y_assign rfl ?_)
      refine O_nil (T_sub [(2, _), (3, _), (4, _), (5, _)] ⟨rfl, rfl, rfl, rfl, trivial⟩ ?_)
      refine T_ret ?_
      refine Rt_fin (vs := [_, _, _, _]) Tryz.results33 rfl ⟨rfl, rfl, rfl, rfl, trivial⟩ ?_
      try dsimp only [tup]
      refine ⟨_, [], hs.done, rfl, ?_⟩
      unfold szV sizesF; first | (rw [if_pos (by omega)] <;> rfl) | (rw [if_neg (by omega), if_pos (by omega)] <;> rfl) | (rw [if_neg (by omega), if_neg (by omega), if_pos (by omega)] <;> rfl) | (rw [if_neg (by omega), if_neg (by omega), if_neg (by omega), if_pos (by omega)] <;> rfl) | (rw [if_neg (by omega), if_neg (by omega), if_neg (by omega), if_neg (by omega)] <;> rfl)
    · -- h9: False
      dsimp only [cmpP] at h9
      refine O_y hs (Y_assign rfl ?_)
      refine O_nil (T_sub [(6, _), (7, _)] ⟨rfl, rfl, trivial⟩ ?_)
      refine T_condF rfl (T_seq (T_region rfl ?_))
      refine O_y hs (Y_cmpS rfl rfl rfl (fun h10 => ?_) (fun h10 => ?_))
      · -- h10: True
        dsimp only [cmpP] at h10
        refine O_y hs (Y_assign rfl ?_)
        refine O_nil (T_sub [(6, _), (7, _)] ⟨rfl, rfl, trivial⟩ ?_)
        refine T_condT rfl (T_skip ?_)
        refine T_condT rfl (T_seq (T_region rfl ?_))
        refine O_y hs (Y_assign rfl ?_)
        refine O_y hs (Y_assign rfl ?_)
        refine O_y hs (Y_assign rfl ?_)
        refine O_y hs (Y_assign rfl ?_)
        refine O_nil (T_sub [(2, _), (3, _), (4, _), (5, _)] ⟨rfl, rfl, rfl, rfl, trivial⟩ ?_)
        refine T_ret ?_
        refine Rt_fin (vs := [_, _, _, _]) Tryz.results33 rfl ⟨rfl, rfl, rfl, rfl, trivial⟩ ?_
        try dsimp only [tup]
        refine ⟨_, [], hs.done, rfl, ?_⟩
        unfold szV sizesF; first | (rw [if_pos (by omega)] <;> rfl) | (rw [if_neg (by omega), if_pos (by omega)] <;> rfl) | (rw [if_neg (by omega), if_neg (by omega), if_pos (by omega)] <;> rfl) | (rw [if_neg (by omega), if_neg (by omega), if_neg (by omega), if_pos (by omega)] <;> rfl) | (rw [if_neg (by omega), if_neg (by omega), if_neg (by omega), if_neg (by omega)] <;> rfl)
      · -- h10: False
        dsimp only [cmpP] at h10
        refine O_y hs (Y_assign rfl ?_)
        refine O_nil (T_sub [(6, _), (7, _)] ⟨rfl, rfl, trivial⟩ ?_)
        refine T_condF rfl (T_region rfl ?_)
        refine O_y hs (Y_cmpS rfl rfl rfl (fun h11 => ?_) (fun h11 => ?_))
        · -- h11: True
          dsimp only [cmpP] at h11
          refine O_y hs (Y_assign rfl ?_)
          refine O_nil (T_sub [(6, _), (7, _)] ⟨rfl, rfl, trivial⟩ ?_)
          refine T_condT rfl (T_seq (T_region rfl ?_))
          refine O_y hs (Y_assign rfl ?_)
          refine O_y hs (Y_assign rfl ?_)
          refine O_y hs (Y_assign rfl ?_)
          refine O_y hs (Y_assign rfl ?_)
          refine O_nil (T_sub [(2, _), (3, _), (4, _), (5, _)] ⟨rfl, rfl, rfl, rfl, trivial⟩ ?_)
          refine T_ret ?_
          refine Rt_fin (vs := [_, _, _, _]) Tryz.results33 rfl ⟨rfl, rfl, rfl, rfl, trivial⟩ ?_
          try dsimp only [tup]
          refine ⟨_, [], hs.done, rfl, ?_⟩
          unfold szV sizesF; first | (rw [if_pos (by omega)] <;> rfl) | (rw [if_neg (by omega), if_pos (by omega)] <;> rfl) | (rw [if_neg (by omega), if_neg (by omega), if_pos (by omega)] <;> rfl) | (rw [if_neg (by omega), if_neg (by omega), if_neg (by omega), if_pos (by omega)] <;> rfl) | (rw [if_neg (by omega), if_neg (by omega), if_neg (by omega), if_neg (by omega)] <;> rfl)
        · -- h11: False
          dsimp only [cmpP] at h11
          refine O_y hs (Y_assign rfl ?_)
          refine O_nil (T_sub [(6, _), (7, _)] ⟨rfl, rfl, trivial⟩ ?_)
          refine T_condF rfl (T_seq (T_seq (T_region rfl ?_)))
          refine O_y hs (Y_cmpS rfl rfl rfl (fun h13 => ?_) (fun h13 => ?_))
          · -- h13: True
            dsimp only [cmpP] at h13
            refine O_y hs (Y_assign rfl ?_)
            refine O_nil (T_sub [(6, _), (12, _)] ⟨rfl, rfl, trivial⟩ ?_)
            refine T_condT rfl (T_skip ?_)
            refine T_condT rfl (T_seq (T_region rfl ?_))
            refine O_y hs (Y_assign rfl ?_)
            refine O_y hs (Y_assign rfl ?_)
            refine O_y hs (Y_assign rfl ?_)
            refine O_y hs (Y_assign rfl ?_)
            refine O_nil (T_sub [(2, _), (3, _), (4, _), (5, _)] ⟨rfl, rfl, rfl, rfl, trivial⟩ ?_)
            refine T_ret ?_
            refine Rt_fin (vs := [_, _, _, _]) Tryz.results33 rfl ⟨rfl, rfl, rfl, rfl, trivial⟩ ?_
            try dsimp only [tup]
            refine ⟨_, [], hs.done, rfl, ?_⟩
            unfold szV sizesF; first | (rw [if_pos (by omega)] <;> rfl) | (rw [if_neg (by omega), if_pos (by omega)] <;> rfl) | (rw [if_neg (by omega), if_neg (by omega), if_pos (by omega)] <;> rfl) | (rw [if_neg (by omega), if_neg (by omega), if_neg (by omega), if_pos (by omega)] <;> rfl) | (rw [if_neg (by omega), if_neg (by omega), if_neg (by omega), if_neg (by omega)] <;> rfl)
          · -- h13: False
            dsimp only [cmpP] at h13
            refine O_y hs (Y_assign rfl ?_)
            refine O_nil (T_sub [(6, _), (12, _)] ⟨rfl, rfl, trivial⟩ ?_)
            refine T_condF rfl (T_region rfl ?_)
            refine O_y hs (Y_cmpS rfl rfl rfl (fun h14 => ?_) (fun h14 => ?_))
            · -- h14: True
              dsimp only [cmpP] at h14
              refine O_y hs (Y_assign rfl ?_)
              refine O_nil (T_sub [(6, _), (12, _)] ⟨rfl, rfl, trivial⟩ ?_)
              refine T_condT rfl (T_seq (T_region rfl ?_))
              refine O_y hs (Y_assign rfl ?_)
              refine O_y hs (Y_assign rfl ?_)
              refine O_y hs (Y_assign rfl ?_)
              refine O_y hs (Y_assign rfl ?_)
              refine O_nil (T_sub [(2, _), (3, _), (4, _), (5, _)] ⟨rfl, rfl, rfl, rfl, trivial⟩ ?_)
              refine T_ret ?_
              refine Rt_fin (vs := [_, _, _, _]) Tryz.results33 rfl ⟨rfl, rfl, rfl, rfl, trivial⟩ ?_
              try dsimp only [tup]
              refine ⟨_, [], hs.done, rfl, ?_⟩
              unfold szV sizesF; first | (rw [if_pos (by omega)] <;> rfl) | (rw [if_neg (by omega), if_pos (by omega)] <;> rfl) | (rw [if_neg (by omega), if_neg (by omega), if_pos (by omega)] <;> rfl) | (rw [if_neg (by omega), if_neg (by omega), if_neg (by omega), if_pos (by omega)] <;> rfl) | (rw [if_neg (by omega), if_neg (by omega), if_neg (by omega), if_neg (by omega)] <;> rfl)
            · -- h14: False
              dsimp only [cmpP] at h14
              refine O_y hs (Y_assign rfl ?_)
              refine O_nil (T_sub [(6, _), (12, _)] ⟨rfl, rfl, trivial⟩ ?_)
              refine T_condF rfl (T_seq (T_region rfl ?_))
              refine O_y hs (Y_cmpS rfl rfl rfl (fun h16 => ?_) (fun h16 => ?_))
              · -- h16: True
                dsimp only [cmpP] at h16
                refine O_y hs (Y_assign rfl ?_)
                refine O_nil (T_sub [(6, _), (15, _)] ⟨rfl, rfl, trivial⟩ ?_)
                refine T_condT rfl (T_seq (T_region rfl ?_))
                refine O_y hs (Y_assign rfl ?_)
                refine O_y hs (Y_assign rfl ?_)
                refine O_y hs (Y_assign rfl ?_)
                refine O_y hs (Y_assign rfl ?_)
                refine O_nil (T_sub [(2, _), (3, _), (4, _), (5, _)] ⟨rfl, rfl, rfl, rfl, trivial⟩ ?_)
                refine T_ret ?_
                refine Rt_fin (vs := [_, _, _, _]) Tryz.results33 rfl ⟨rfl, rfl, rfl, rfl, trivial⟩ ?_
                try dsimp only [tup]
                refine ⟨_, [], hs.done, rfl, ?_⟩
                unfold szV sizesF; first | (rw [if_pos (by omega)] <;> rfl) | (rw [if_neg (by omega), if_pos (by omega)] <;> rfl) | (rw [if_neg (by omega), if_neg (by omega), if_pos (by omega)] <;> rfl) | (rw [if_neg (by omega), if_neg (by omega), if_neg (by omega), if_pos (by omega)] <;> rfl) | (rw [if_neg (by omega), if_neg (by omega), if_neg (by omega), if_neg (by omega)] <;> rfl)
              · -- h16: False
                dsimp only [cmpP] at h16
                refine O_y hs (Y_assign rfl ?_)
                refine O_nil (T_sub [(6, _), (15, _)] ⟨rfl, rfl, trivial⟩ ?_)
                refine T_condF rfl (T_seq (T_region rfl ?_))
                refine O_y hs (Y_cmpS rfl rfl rfl (fun h18 => ?_) (fun h18 => ?_))
                · -- h18: True
                  dsimp only [cmpP] at h18
                  refine O_y hs (Y_assign rfl ?_)
                  refine O_nil (T_sub [(17, _)] ⟨rfl, trivial⟩ ?_)
                  refine T_condT rfl (T_seq (T_region rfl ?_))
                  refine O_y hs (Y_assign rfl ?_)
                  refine O_y hs (Y_assign rfl ?_)
                  refine O_y hs (Y_assign rfl ?_)
                  refine O_y hs (Y_assign rfl ?_)
                  refine O_nil (T_sub [(2, _), (3, _), (4, _), (5, _)] ⟨rfl, rfl, rfl, rfl, trivial⟩ ?_)
                  refine T_ret ?_
                  refine Rt_fin (vs := [_, _, _, _]) Tryz.results33 rfl ⟨rfl, rfl, rfl, rfl, trivial⟩ ?_
                  try dsimp only [tup]
                  refine ⟨_, [], hs.done, rfl, ?_⟩
                  unfold szV sizesF; first | (rw [if_pos (by omega)] <;> rfl) | (rw [if_neg (by omega), if_pos (by omega)] <;> rfl) | (rw [if_neg (by omega), if_neg (by omega), if_pos (by omega)] <;> rfl) | (rw [if_neg (by omega), if_neg (by omega), if_neg (by omega), if_pos (by omega)] <;> rfl) | (rw [if_neg (by omega), if_neg (by omega), if_neg (by omega), if_neg (by omega)] <;> rfl)
                · -- h18: False
                  dsimp only [cmpP] at h18
                  refine O_y hs (Y_assign rfl ?_)
                  refine O_nil (T_sub [(17, _)] ⟨rfl, trivial⟩ ?_)
                  refine T_condF rfl (T_skip ?_)
                  refine T_seq (T_region rfl ?_)
                  refine O_y hs (Y_assign rfl ?_)
                  refine O_y hs (Y_assign rfl ?_)
                  refine O_y hs (Y_assign rfl ?_)
                  refine O_y hs (Y_assign rfl ?_)
                  refine O_nil (T_sub [(2, _), (3, _), (4, _), (5, _)] ⟨rfl, rfl, rfl, rfl, trivial⟩ ?_)
                  refine T_ret ?_
                  refine Rt_fin (vs := [_, _, _, _]) Tryz.results33 rfl ⟨rfl, rfl, rfl, rfl, trivial⟩ ?_
                  try dsimp only [tup]
                  refine ⟨_, [], hs.done, rfl, ?_⟩
                  unfold szV sizesF; first | (rw [if_pos (by omega)] <;> rfl) | (rw [if_neg (by omega), if_pos (by omega)] <;> rfl) | (rw [if_neg (by omega), if_neg (by omega), if_pos (by omega)] <;> rfl) | (rw [if_neg (by omega), if_neg (by omega), if_neg (by omega), if_pos (by omega)] <;> rfl) | (rw [if_neg (by omega), if_neg (by omega), if_neg (by omega), if_neg (by omega)] <;> rfl)

set_option maxHeartbeats 400000 in
set_option maxRecDepth 10000 in
theorem valid_n {G : Ghost} {v : Value} {o : OpV} (ho : OpR G v o) (hz : sizesF o.kind = none) :
    FnOk Tryz.prog 12 [v] G [] fun r _ H' => H' = [] ∧ r = .int .i64 (if validO o = true then 0 else 1) := by
  obtain ⟨u1, u2, rfl, ho1, ho2⟩ := ho
  obtain ⟨A1, c1, rfl, _⟩ := id ho1
  obtain ⟨A2, c2, rfl, _⟩ := id ho2
  refine FnOk.of_T [(0, _)] Tryz.func12 rfl Tryz.ntmps12 (by simp) rfl fun w0 hs => ?_
  refine T_seq (T_region rfl ?_)
  refine O_s (S_box hs rfl (cs := [_, _, _]) rfl fun b1 _ hs => ?_)
  refine O_y hs (Y_assign rfl ?_)
  refine O_nil (T_sub [(1, _)] ⟨rfl, trivial⟩ ?_)
  refine T_seq (T_region rfl ?_)
  refine O_y hs (Y_fieldAddr FO24_0 rfl (m := 0) rfl ?_)
  refine O_y hs (Y_ld 0 Tryz.isAgg3 rfl rfl rfl ?_)
  refine O_s (S_call (H1 := []) hs rfl Tryz.func33 rfl (by kernel_rfl) (sizes_ok) fun v1 G' H' _ hR hG10 hs => ?_)
  obtain ⟨rfl, rfl⟩ := hR
  replace hs : St _ _ [_] _ := hs
  unfold szV; rw [hz]
  refine O_y hs (Y_move rfl ?_)
  refine O_y hs (Y_extract rfl rfl ?_)
  refine O_y hs (Y_extract rfl rfl ?_)
  refine O_y hs (Y_extract rfl rfl ?_)
  refine O_y hs (Y_extract rfl rfl ?_)
  refine O_y hs (Y_assign rfl ?_)
  refine O_y hs (Y_assign rfl ?_)
  refine O_y hs (Y_assign rfl ?_)
  refine O_y hs (Y_assign rfl ?_)
  refine O_nil (T_sub [(1, _), (3, _), (4, _), (5, _), (6, _)] ⟨rfl, rfl, rfl, rfl, rfl, trivial⟩ ?_)
  refine T_seq (T_seq (T_region rfl ?_))
  refine O_y hs (Y_move rfl ?_)
  refine O_y hs (Y_not rfl ?_)
  refine O_y hs (Y_move rfl ?_)
  refine O_no 17 rfl rfl ?_
  refine O_no 17 rfl rfl ?_
  refine O_no 17 rfl rfl ?_
  refine O_no 17 rfl rfl ?_
  refine O_no 17 rfl rfl ?_
  refine O_y hs (Y_pickT rfl rfl ?_)
  refine O_y hs (Y_move rfl ?_)
  refine O_no 24 rfl rfl ?_
  refine O_no 24 rfl rfl ?_
  refine O_no 24 rfl rfl ?_
  refine O_no 24 rfl rfl ?_
  refine O_no 24 rfl rfl ?_
  refine O_y hs (Y_pickT rfl rfl ?_)
  refine O_y hs (Y_move rfl ?_)
  refine O_no 31 rfl rfl ?_
  refine O_no 31 rfl rfl ?_
  refine O_no 31 rfl rfl ?_
  refine O_no 31 rfl rfl ?_
  refine O_no 31 rfl rfl ?_
  refine O_y hs (Y_pickT rfl rfl ?_)
  refine O_nil (T_sub [(37, _)] ⟨rfl, trivial⟩ ?_)
  refine T_condT rfl (T_seq (T_region rfl ?_))
  refine O_y hs (Y_assign rfl ?_)
  refine O_nil (T_sub [(2, _)] ⟨rfl, trivial⟩ ?_)
  refine T_ret ?_
  refine Rt_fin (vs := [_]) Tryz.results12 rfl ⟨rfl, trivial⟩ ?_
  try dsimp only [tup]
  exact ⟨_, [], hs.done, rfl, congrArg (Value.int .i64) (if_neg (validO_n hz)).symm⟩

set_option maxHeartbeats 400000 in
set_option maxRecDepth 10000 in
theorem valid_s {G : Ghost} {v : Value} {o : OpV} {l m f : Nat} (ho : OpR G v o) (hz : sizesF o.kind = some (l, m, f)) :
    FnOk Tryz.prog 12 [v] G [] fun r _ H' => H' = [] ∧ r = .int .i64 (if validO o = true then 0 else 1) := by
  obtain ⟨u1, u2, rfl, ho1, ho2⟩ := ho
  obtain ⟨A1, c1, rfl, _⟩ := id ho1
  obtain ⟨A2, c2, rfl, _⟩ := id ho2
  refine FnOk.of_T [(0, _)] Tryz.func12 rfl Tryz.ntmps12 (by simp) rfl fun w0 hs => ?_
  refine T_seq (T_region rfl ?_)
  refine O_s (S_box hs rfl (cs := [_, _, _]) rfl fun b1 _ hs => ?_)
  refine O_y hs (Y_assign rfl ?_)
  refine O_nil (T_sub [(1, _)] ⟨rfl, trivial⟩ ?_)
  refine T_seq (T_region rfl ?_)
  refine O_y hs (Y_fieldAddr FO24_0 rfl (m := 0) rfl ?_)
  refine O_y hs (Y_ld 0 Tryz.isAgg3 rfl rfl rfl ?_)
  refine O_s (S_call (H1 := []) hs rfl Tryz.func33 rfl (by kernel_rfl) (sizes_ok) fun v1 G' H' _ hR hG10 hs => ?_)
  obtain ⟨rfl, rfl⟩ := hR
  replace hs : St _ _ [_] _ := hs
  unfold szV; rw [hz]
  refine O_y hs (Y_move rfl ?_)
  refine O_y hs (Y_extract rfl rfl ?_)
  refine O_y hs (Y_extract rfl rfl ?_)
  refine O_y hs (Y_extract rfl rfl ?_)
  refine O_y hs (Y_extract rfl rfl ?_)
  refine O_y hs (Y_assign rfl ?_)
  refine O_y hs (Y_assign rfl ?_)
  refine O_y hs (Y_assign rfl ?_)
  refine O_y hs (Y_assign rfl ?_)
  refine O_nil (T_sub [(1, _), (3, _), (4, _), (5, _), (6, _)] ⟨rfl, rfl, rfl, rfl, rfl, trivial⟩ ?_)
  refine T_seq (T_seq (T_region rfl ?_))
  refine O_y hs (Y_move rfl ?_)
  refine O_y hs (Y_not rfl ?_)
  refine O_y hs (Y_move rfl ?_)
  refine O_yy 17 hs rfl rfl (Y_fieldAddr FO24_1 rfl (m := 1) rfl ?_)
  refine O_yy 17 hs rfl rfl (Y_ld 0 Tryz.isAgg22 rfl rfl rfl ?_)
  refine O_yy 17 hs rfl rfl (Y_len Tryz.underlying22 rfl ?_)
  refine O_yy 17 hs rfl rfl (Y_move rfl ?_)
  refine O_yy 17 hs rfl rfl (Y_cmpS rfl rfl rfl (fun h22 => ?_) (fun h22 => ?_))
  · -- h22: True
    dsimp only [cmpP] at h22
    refine O_y hs (Y_pickF rfl rfl ?_)
    refine O_y hs (Y_move rfl ?_)
    refine O_no 24 rfl rfl ?_
    refine O_no 24 rfl rfl ?_
    refine O_no 24 rfl rfl ?_
    refine O_no 24 rfl rfl ?_
    refine O_no 24 rfl rfl ?_
    refine O_y hs (Y_pickT rfl rfl ?_)
    refine O_y hs (Y_move rfl ?_)
    refine O_no 31 rfl rfl ?_
    refine O_no 31 rfl rfl ?_
    refine O_no 31 rfl rfl ?_
    refine O_no 31 rfl rfl ?_
    refine O_no 31 rfl rfl ?_
    refine O_y hs (Y_pickT rfl rfl ?_)
    refine O_nil (T_sub [(37, _)] ⟨rfl, trivial⟩ ?_)
    refine T_condT rfl (T_seq (T_region rfl ?_))
    refine O_y hs (Y_assign rfl ?_)
    refine O_nil (T_sub [(2, _)] ⟨rfl, trivial⟩ ?_)
    refine T_ret ?_
    refine Rt_fin (vs := [_]) Tryz.results12 rfl ⟨rfl, trivial⟩ ?_
    try dsimp only [tup]
    exact ⟨_, [], hs.done, rfl, congrArg (Value.int .i64) (if_neg (validO_f hz (by omega))).symm⟩
  · -- h22: False
    dsimp only [cmpP] at h22
    refine O_y hs (Y_pickF rfl rfl ?_)
    refine O_y hs (Y_move rfl ?_)
    refine O_yy 24 hs rfl rfl (Y_fieldAddr FO24_1 rfl (m := 1) rfl ?_)
    refine O_yy 24 hs rfl rfl (Y_ld 0 Tryz.isAgg22 rfl rfl rfl ?_)
    refine O_yy 24 hs rfl rfl (Y_len Tryz.underlying22 rfl ?_)
    refine O_yy 24 hs rfl rfl (Y_move rfl ?_)
    refine O_yy 24 hs rfl rfl (Y_cmpS rfl rfl rfl (fun h29 => ?_) (fun h29 => ?_))
    · -- h29: True
      dsimp only [cmpP] at h29
      refine O_y hs (Y_pickF rfl rfl ?_)
      refine O_y hs (Y_move rfl ?_)
      refine O_no 31 rfl rfl ?_
      refine O_no 31 rfl rfl ?_
      refine O_no 31 rfl rfl ?_
      refine O_no 31 rfl rfl ?_
      refine O_no 31 rfl rfl ?_
      refine O_y hs (Y_pickT rfl rfl ?_)
      refine O_nil (T_sub [(37, _)] ⟨rfl, trivial⟩ ?_)
      refine T_condT rfl (T_seq (T_region rfl ?_))
      refine O_y hs (Y_assign rfl ?_)
      refine O_nil (T_sub [(2, _)] ⟨rfl, trivial⟩ ?_)
      refine T_ret ?_
      refine Rt_fin (vs := [_]) Tryz.results12 rfl ⟨rfl, trivial⟩ ?_
      try dsimp only [tup]
      exact ⟨_, [], hs.done, rfl, congrArg (Value.int .i64) (if_neg (validO_f hz (by omega))).symm⟩
    · -- h29: False
      dsimp only [cmpP] at h29
      refine O_y hs (Y_pickF rfl rfl ?_)
      refine O_y hs (Y_move rfl ?_)
      refine O_yy 31 hs rfl rfl (Y_fieldAddr FO24_2 rfl (m := 2) rfl ?_)
      refine O_yy 31 hs rfl rfl (Y_ld 0 Tryz.isAgg22 rfl rfl rfl ?_)
      refine O_yy 31 hs rfl rfl (Y_len Tryz.underlying22 rfl ?_)
      refine O_yy 31 hs rfl rfl (Y_move rfl ?_)
      refine O_yy 31 hs rfl rfl (Y_cmpS rfl rfl rfl (fun h36 => ?_) (fun h36 => ?_))
      · -- h36: True
        dsimp only [cmpP] at h36
        refine O_y hs (Y_pickF rfl rfl ?_)
        refine O_nil (T_sub [(37, _)] ⟨rfl, trivial⟩ ?_)
        refine T_condT rfl (T_seq (T_region rfl ?_))
        refine O_y hs (Y_assign rfl ?_)
        refine O_nil (T_sub [(2, _)] ⟨rfl, trivial⟩ ?_)
        refine T_ret ?_
        refine Rt_fin (vs := [_]) Tryz.results12 rfl ⟨rfl, trivial⟩ ?_
        try dsimp only [tup]
        exact ⟨_, [], hs.done, rfl, congrArg (Value.int .i64) (if_neg (validO_f hz (by omega))).symm⟩
      · -- h36: False
        dsimp only [cmpP] at h36
        refine O_y hs (Y_pickF rfl rfl ?_)
        refine O_nil (T_sub [(37, _)] ⟨rfl, trivial⟩ ?_)
        refine T_condF rfl (T_skip ?_)
        refine T_seq (T_region rfl ?_)
        refine O_y hs (Y_assign rfl ?_)
        refine O_nil (T_sub [(2, _)] ⟨rfl, trivial⟩ ?_)
        refine T_ret ?_
        refine Rt_fin (vs := [_]) Tryz.results12 rfl ⟨rfl, trivial⟩ ?_
        try dsimp only [tup]
        exact ⟨_, [], hs.done, rfl, congrArg (Value.int .i64) (if_pos (validO_t hz (by omega))).symm⟩

theorem valid_ok {G : Ghost} {v : Value} {o : OpV} (ho : OpR G v o) :
    FnOk Tryz.prog 12 [v] G [] fun r _ H' => H' = [] ∧ r = .int .i64 (if validO o = true then 0 else 1) := by
  rcases hz : sizesF o.kind with _ | ⟨l, m, f⟩
  · exact valid_n ho hz
  · exact valid_s ho hz


set_option maxHeartbeats 400000 in
set_option maxRecDepth 10000 in
theorem clone_ok {v : Value} {G : Ghost} {bs : List UInt8} (hb : Bytes G v bs) (hl : bs.length ≤ 1000000000) :
    FnOk Tryz.prog 35 [v] G [] fun r G' H' => H' = [] ∧ Bytes G' r bs := by
  obtain ⟨A, cap, rfl, hb'⟩ := id hb
  refine FnOk.of_T [(0, _)] Tryz.func35 rfl Tryz.ntmps35 (by simp) rfl fun w0 hs => ?_
  have hb0 := hb
  refine T_seq (T_region rfl ?_)
  refine O_y hs (Y_assign rfl ?_)
  refine O_nil (T_sub [(0, _)] ⟨rfl, trivial⟩ ?_)
  refine T_seq (T_seq (T_region rfl ?_))
  refine O_y hs (Y_move rfl ?_)
  refine O_y hs (Y_nilS Tryz.underlying22 rfl rfl (fun h4 => ?_) (fun h4 => ?_))
  · -- h4: True
    refine O_nil (T_sub [(0, _), (4, _)] ⟨rfl, rfl, trivial⟩ ?_)
    refine T_condT rfl (T_seq (T_region rfl ?_))
    refine O_y hs (Y_assign rfl ?_)
    refine O_nil (T_sub [(2, _)] ⟨rfl, trivial⟩ ?_)
    refine T_ret ?_
    refine Rt_fin (vs := [_]) Tryz.results35 rfl ⟨rfl, trivial⟩ ?_
    try dsimp only [tup]
    have hn : bs = [] := Bytes.nil_of (h4 ▸ hb)
    exact ⟨_, [], hs.done, rfl, by subst hn; exact Sl.nil _ _⟩
  · -- h4: False
    refine O_nil (T_sub [(0, _), (4, _)] ⟨rfl, rfl, trivial⟩ ?_)
    refine T_condF rfl (T_skip ?_)
    refine T_seq (T_region rfl ?_)
    refine O_s (S_lit hs Tryz.underlying22 Tryz.sizeOf5 Tryz.zeroValue5 rfl rfl (by decide) (by decide) rfl (cs := []) rfl rfl fun v1 _ hs _ => ?_)
    refine O_y hs (Y_move rfl ?_)
    refine O_s (S_append hs Tryz.underlying22 TI5 rfl (by decide) rfl rfl (hb) (byteV_one) (by omega) (by omega) fun v2 _ hs => ?_)
    refine O_y hs (Y_assign rfl ?_)
    refine O_nil (T_sub [(2, _)] ⟨rfl, trivial⟩ ?_)
    refine T_ret ?_
    refine Rt_fin (vs := [_]) Tryz.results35 rfl ⟨rfl, trivial⟩ ?_
    try dsimp only [tup]
    obtain ⟨G', hG, hf, hs3⟩ := hs.fixRow noM
    exact ⟨G', [], hs3, rfl, by simpa [Bytes] using hf⟩

set_option maxHeartbeats 400000 in
set_option maxRecDepth 10000 in
theorem equal_ok {v v2 : Value} {G : Ghost} {a b : List UInt8} (ha : Bytes G v a) (hb : Bytes G v2 b) :
    FnOk Tryz.prog 74 [v, v2] G [] fun r _ H' => H' = [] ∧ r = .bool (decide (a = b)) := by
  obtain ⟨A1, c1, rfl, _⟩ := id ha
  obtain ⟨A2, c2, rfl, _⟩ := id hb
  refine FnOk.of_T [(0, _), (1, _)] Tryz.func74 rfl Tryz.ntmps74 (by simp) rfl fun w0 hs => ?_
  refine T_seq (T_region rfl ?_)
  refine O_y hs (Y_assign rfl ?_)
  refine O_nil (T_sub [(0, _), (1, _)] ⟨rfl, rfl, trivial⟩ ?_)
  refine T_seq (T_region rfl ?_)
  refine O_y hs (Y_move rfl ?_)
  refine O_y hs (Y_str Tryz.underlying22 Tryz.underlying5 Tryz.underlying9 rfl ha ?_)
  refine O_y hs (Y_move rfl ?_)
  refine O_y hs (Y_str Tryz.underlying22 Tryz.underlying5 Tryz.underlying9 rfl hb ?_)
  refine O_y hs (Y_strEqS rfl rfl (fun h9 => ?_) (fun h9 => ?_))
  · -- h9: True
    refine O_y hs (Y_assign rfl ?_)
    refine O_nil (T_sub [(4, _)] ⟨rfl, trivial⟩ ?_)
    refine T_ret ?_
    refine Rt_fin (vs := [_]) Tryz.results74 rfl ⟨rfl, trivial⟩ ?_
    try dsimp only [tup]
    exact ⟨_, [], hs.done, rfl, congrArg Value.bool (by rw [eq_comm]; first | exact decide_eq_true h9 | exact decide_eq_false h9)⟩
  · -- h9: False
    refine O_y hs (Y_assign rfl ?_)
    refine O_nil (T_sub [(4, _)] ⟨rfl, trivial⟩ ?_)
    refine T_ret ?_
    refine Rt_fin (vs := [_]) Tryz.results74 rfl ⟨rfl, trivial⟩ ?_
    try dsimp only [tup]
    exact ⟨_, [], hs.done, rfl, congrArg Value.bool (by rw [eq_comm]; first | exact decide_eq_true h9 | exact decide_eq_false h9)⟩

set_option maxHeartbeats 400000 in
set_option maxRecDepth 10000 in
theorem same_ok {v v2 : Value} {G : Ghost} {a b : List UInt8} (ha : Bytes G v a) (hb : Bytes G v2 b) :
    FnOk Tryz.prog 14 [v, v2] G [] fun r _ H' => H' = [] ∧ r = .bool (decide (a = b)) := by
  obtain ⟨A1, c1, rfl, _⟩ := id ha
  obtain ⟨A2, c2, rfl, _⟩ := id hb
  refine FnOk.of_T [(0, _), (1, _)] Tryz.func14 rfl Tryz.ntmps14 (by simp) rfl fun w0 hs => ?_
  refine T_seq (T_region rfl ?_)
  refine O_y hs (Y_assign rfl ?_)
  refine O_nil (T_sub [(0, _), (1, _)] ⟨rfl, rfl, trivial⟩ ?_)
  refine T_seq (T_region rfl ?_)
  refine O_y hs (Y_move rfl ?_)
  refine O_y hs (Y_str Tryz.underlying22 Tryz.underlying5 Tryz.underlying9 rfl ha ?_)
  refine O_y hs (Y_move rfl ?_)
  refine O_y hs (Y_str Tryz.underlying22 Tryz.underlying5 Tryz.underlying9 rfl hb ?_)
  refine O_y hs (Y_strEqS rfl rfl (fun h9 => ?_) (fun h9 => ?_))
  · -- h9: True
    refine O_y hs (Y_assign rfl ?_)
    refine O_nil (T_sub [(4, _)] ⟨rfl, trivial⟩ ?_)
    refine T_ret ?_
    refine Rt_fin (vs := [_]) Tryz.results14 rfl ⟨rfl, trivial⟩ ?_
    try dsimp only [tup]
    exact ⟨_, [], hs.done, rfl, congrArg Value.bool (by rw [eq_comm]; first | exact decide_eq_true h9 | exact decide_eq_false h9)⟩
  · -- h9: False
    refine O_y hs (Y_assign rfl ?_)
    refine O_nil (T_sub [(4, _)] ⟨rfl, trivial⟩ ?_)
    refine T_ret ?_
    refine Rt_fin (vs := [_]) Tryz.results14 rfl ⟨rfl, trivial⟩ ?_
    try dsimp only [tup]
    exact ⟨_, [], hs.done, rfl, congrArg Value.bool (by rw [eq_comm]; first | exact decide_eq_true h9 | exact decide_eq_false h9)⟩

set_option maxHeartbeats 400000 in
set_option maxRecDepth 10000 in
theorem copy_ok {v : Value} {G : Ghost} {bs : List UInt8} (hb : Bytes G v bs) (hl : bs.length ≤ 1000000000) :
    FnOk Tryz.prog 27 [v] G [] fun r _ H' => H' = [.row 5 1 r bs.length (bs.map byteV)] := by
  obtain ⟨A, cap, rfl, hb'⟩ := id hb
  refine FnOk.of_T [(0, _)] Tryz.func27 rfl Tryz.ntmps27 (by simp) rfl fun w0 hs => ?_
  have hb0 := hb
  refine T_seq (T_region rfl ?_)
  refine O_y hs (Y_assign rfl ?_)
  refine O_nil (T_sub [(0, _)] ⟨rfl, trivial⟩ ?_)
  refine T_seq (T_region rfl ?_)
  refine O_s (S_lit hs Tryz.underlying22 Tryz.sizeOf5 Tryz.zeroValue5 rfl rfl (by decide) (by decide) rfl (cs := []) rfl rfl fun v1 _ hs _ => ?_)
  refine O_y hs (Y_assign rfl ?_)
  refine O_nil (T_sub [(0, _), (3, _)] ⟨rfl, rfl, trivial⟩ ?_)
  refine T_seq (T_seq (T_region rfl ?_))
  refine O_y hs (Y_assign rfl ?_)
  refine O_nil (T_sub [(0, _), (3, _), (4, _)] ⟨rfl, rfl, rfl, trivial⟩ ?_)
  refine T_block (T_loop (fun m E w => ∃ (k : Nat) (v3 : Value) (G' : Ghost), k ≤ bs.length ∧ m = bs.length - k ∧ E = ⟨[], [(0, (.slice A bs.length cap)), (3, v3), (4, .int .i64 (k : Int))]⟩ ∧ St ⟨w0, G, feet []⟩ G' [.row 5 1 v3 k ((bs.take k).map byteV)] w) (L := [(0, _), (3, _), (4, _)]) ⟨rfl, rfl, rfl, trivial⟩ (⟨0, _, _, by omega, rfl, rfl, hs⟩) fun m E w hI => ?_)
  obtain ⟨k, v3, G', hk, rfl, rfl, hs⟩ := hI
  have hb := hb0.mono hs.le
  refine T_seq (T_seq (T_region rfl ?_))
  refine O_y hs (Y_move rfl ?_)
  refine O_y hs (Y_move rfl ?_)
  refine O_y hs (Y_len Tryz.underlying22 rfl ?_)
  refine O_y hs (Y_cmpS rfl rfl rfl (fun h9 => ?_) (fun h9 => ?_))
  · -- h9: True
    dsimp only [cmpP] at h9
    refine O_nil (T_sub [(0, _), (3, _), (4, _), (9, _)] ⟨rfl, rfl, rfl, rfl, trivial⟩ ?_)
    refine T_condT rfl (T_skip ?_)
    refine T_seq (T_block (T_region rfl ?_))
    refine O_y hs (Y_move rfl ?_)
    refine O_y hs (Y_move rfl ?_)
    refine O_y hs (Y_move rfl ?_)
    refine O_y hs (Y_idxB hb k Tryz.underlying22 Tryz.sizeOf5 rfl rfl rfl (by omega) fun p15 hp15 => ?_)
    refine O_y hs (Y_ldG Tryz.isAgg5 rfl (hp15) ?_)
    refine O_s (S_lit hs Tryz.underlying22 Tryz.sizeOf5 Tryz.zeroValue5 rfl rfl (by decide) (by decide) rfl (cs := [_]) rfl rfl fun v2 _ hs _ => ?_)
    obtain ⟨_, hG17, hl17, hs⟩ := hs.fixRow noM
    replace hb := hb.mono hG17
    refine O_s (S_append hs Tryz.underlying22 TI5 rfl (by decide) rfl rfl (hl17) (one1 rfl) (by omega) (by omega) fun v3 _ hs => ?_)
    refine O_y hs (Y_assign rfl ?_)
    refine O_nil (T_sub [(0, _), (3, _), (4, _)] ⟨rfl, rfl, rfl, trivial⟩ ?_)
    refine T_region rfl ?_
    refine O_y hs (Y_move rfl ?_)
    refine O_y hs (Y_add (c := ((k + 1 : Nat) : Int)) rfl rfl (by omega) (by omega) ?_)
    refine O_y hs (Y_assign rfl ?_)
    refine O_nil ⟨_, ?_, [(0, _), (3, _), (4, _)], ⟨rfl, rfl, rfl, trivial⟩, ⟨k + 1, _, _, by omega, rfl, rfl, by rw [take_map_succ bs k (by omega)]; exact hs⟩⟩
    omega
  · -- h9: False
    dsimp only [cmpP] at h9
    refine O_nil (T_sub [(0, _), (3, _), (4, _), (9, _)] ⟨rfl, rfl, rfl, rfl, trivial⟩ ?_)
    refine T_condF rfl (T_exit ?_)
    refine T_seq (T_region rfl ?_)
    refine O_y hs (Y_move rfl ?_)
    refine O_y hs (Y_assign rfl ?_)
    refine O_nil (T_sub [(2, _)] ⟨rfl, trivial⟩ ?_)
    refine T_ret ?_
    refine Rt_fin (vs := [_]) Tryz.results27 rfl ⟨rfl, trivial⟩ ?_
    try dsimp only [tup]
    obtain rfl : k = bs.length := by omega
    rw [List.take_length] at hs
    exact ⟨_, _, hs, rfl⟩

/-! ### the library's search -/
theorem cells_of {G : Ghost} {A : Option Addr} {c : Nat} {l : List UInt8} (hb : Bytes G (.slice A l.length c) l) (hl : 0 < l.length) : ∃ a, A = some a ∧ ∀ i, i < l.length → gcell G (a.add i) = some (.int .u8 ((l.map fun b : UInt8 => (b.toNat : Int)).getD i 0)) := by
  obtain ⟨A', c', h1, _, _, _, h5⟩ := hb
  cases h1
  obtain ⟨a, ha, hc⟩ := h5 hl
  refine ⟨a, ha, fun i hi => ?_⟩
  have := hc i (byteV l[i]) (by simp [hi])
  simpa [byteV, List.getD_eq_getElem?_getD, hi] using this
theorem bytesOf_nums (l : List UInt8) : Lib.bytesOf (l.map fun b : UInt8 => (b.toNat : Int)) = l := by
  simp only [Lib.bytesOf, List.map_map]
  conv => rhs; rw [← List.map_id l]
  refine List.map_congr_left fun b _ => ?_
  simp
theorem run_idxByte {P : Program} {c : Ctx} {G : Ghost} {H : List Res} {w : World} {v : Value} {l : List UInt8} (hs : St c G H w) (hb : Bytes G v l) (x : UInt8) : (Extern.BytealgIndexByte.indexByte #[v, .int .u8 (x.toNat : Int)]).run P w = .ok (.int .i64 (Lib.indexByte l x)) w := by
  obtain ⟨A, cap, rfl, _⟩ := id hb
  cases l with
  | nil =>
    cases A with
    | none => rw [Lib.run_indexByteNil]; rfl
    | some a => exact Lib.run_indexByteAt (P := P) w a 0 cap [] rfl (fun i hi => absurd hi (by omega)) (x.toNat : Int)
  | cons y t =>
    obtain ⟨a, rfl, hc⟩ := cells_of hb (by simp)
    rw [Lib.run_indexByteAt w a _ cap ((y :: t).map fun b : UInt8 => (b.toNat : Int)) (by simp) (fun i hi => hs.cell (hc i hi)), bytesOf_nums]
    simp
theorem Y_idxByte {N : Nat} {r : Option Nat} {c : Ctx} {G : Ghost} {H : List Res} {E : Env} {K : Value → Prop} {d : Option Tmp} {ty : TypeId} {pos : String} {aft : Array Edge} {g : Option (Nat × Bool)} {o q : Operand} {ats : Array TypeId} {v : Value} {l : List UInt8} {x : UInt8} (hb : Bytes G v l)
    (h1 : ev E o = some v) (h2 : ev E q = some (.int .u8 (x.toNat : Int))) (k : K (.int .i64 (Lib.indexByte l x))) : Y ⟨Tryz.prog, N, r⟩ (St c G H) ⟨d, .call { callee := .value (.func 82), args := #[o, q], argTypes := ats }, ty, pos, aft, g⟩ E K :=
  Y_of (v := .int .i64 (Lib.indexByte l x)) (fun a ha w hw => by
    have hx := run_callFunc_extern Tryz.func82 (by kernel_rfl) (by kernel_rfl) (by kernel_rfl) (e := Extern.BytealgIndexByte.indexByte) (by kernel_rfl) #[v, .int .u8 (x.toNat : Int)] w
    rw [run_idxByte hw hb x] at hx
    have e0 : a.eval (.func 82) = .func (.func 82) #[] #[] := rfl
    simp [execOp, resolve, Deferred.ofValue, e0, invoke, ha.ev h1, ha.ev h2, hx, Result.andThen]) k
theorem idxB_mem (x : UInt8) : ∀ l : List UInt8, 0 ≤ Lib.indexByte l x ↔ l.contains x = true
  | [] => by simp [Lib.indexByte]
  | b :: l => by
    have ih := idxB_mem x l
    have hge := Lib.indexByte_ge l x
    unfold Lib.indexByte
    by_cases hb : b = x
    · subst hb; simp
    · have hb' : (b == x) = false := by simpa using hb
      have hb2 : (x == b) = false := by simpa using fun h : x = b => hb h.symm
      rw [List.contains_cons, hb2, Bool.false_or, ← ih]
      simp only [hb', Bool.false_eq_true, if_false]
      split
      · rename_i h; have : Lib.indexByte l x = -1 := by simpa using h
        omega
      · rename_i h; have : ¬ Lib.indexByte l x = -1 := by simpa using h
        omega


set_option maxHeartbeats 400000 in
set_option maxRecDepth 10000 in
theorem idxByte_raw {G : Ghost} {v : Value} {l : List UInt8} {x : UInt8} (hb : Bytes G v l) :
    FnOk Tryz.prog 57 [v, .int .u8 (x.toNat : Int)] G [] fun r _ H' => H' = [] ∧ r = .int .i64 (Lib.indexByte l x) := by
  obtain ⟨A, cap, rfl, _⟩ := id hb
  refine FnOk.of_T [(0, _), (1, _)] Tryz.func57 rfl Tryz.ntmps57 (by simp) rfl fun w0 hs => ?_
  refine T_seq (T_region rfl ?_)
  refine O_y hs (Y_assign rfl ?_)
  refine O_nil (T_sub [(0, _), (1, _)] ⟨rfl, rfl, trivial⟩ ?_)
  refine T_seq (T_region rfl ?_)
  refine O_y hs (Y_move rfl ?_)
  refine O_y hs (Y_move rfl ?_)
  refine O_y hs (Y_idxByte hb rfl rfl ?_)
  refine O_y hs (Y_assign rfl ?_)
  refine O_nil (T_sub [(4, _)] ⟨rfl, trivial⟩ ?_)
  refine T_ret ?_
  refine Rt_fin (vs := [_]) Tryz.results57 rfl ⟨rfl, trivial⟩ ?_
  try dsimp only [tup]
  exact ⟨_, [], hs.done, rfl, rfl⟩

theorem indexByte_ok {G : Ghost} {v : Value} {l : List UInt8} (hb : Bytes G v l) (x : UInt8) :
    FnOk Tryz.prog 57 [v, .int .u8 (x.toNat : Int)] G [] fun r _ H' => H' = [] ∧ ∃ z : Int, r = .int .i64 z ∧ (0 ≤ z ↔ l.contains x = true) := fun w hw =>
  (idxByte_raw hb w hw).mono fun _ _ ⟨v', G', H', he, hs, hH, hr⟩ => ⟨v', G', H', he, hs, hH, _, hr, idxB_mem x l⟩


set_option maxHeartbeats 400000 in
set_option maxRecDepth 10000 in
theorem low_step {G : Ghost} {v v1 : Value} {o : OpV} {out : List UInt8} {x : UInt8} (ho : OpR G v o) (hn : out.length ≤ 1000000000) :
    FnOk Tryz.prog 54 [v, v1, .int .u8 (x.toNat : Int)] G [.row 5 1 v1 out.length (out.map byteV)] fun r _ H' => H' = [.row 5 1 r (lowS out x).length ((lowS out x).map byteV)] := by
  obtain ⟨u1, u2, rfl, ho1, ho2⟩ := ho
  obtain ⟨A1, c1, rfl, _⟩ := id ho1
  obtain ⟨A2, c2, rfl, _⟩ := id ho2
  refine FnOk.of_T [(0, _), (1, _), (2, _)] Tryz.func54 rfl Tryz.ntmps54 (by simp) rfl fun w0 hs => ?_
  have ho10 := ho1
  have ho20 := ho2
  refine T_seq (T_region rfl ?_)
  refine O_s (S_box hs rfl (cs := [_, _, _]) rfl fun b3 _ hs => ?_)
  refine O_y hs (Y_assign rfl ?_)
  refine O_nil (T_sub [(1, _), (2, _)] ⟨rfl, rfl, trivial⟩ ?_)
  refine T_seq (T_region rfl ?_)
  refine O_y hs (Y_move rfl ?_)
  refine O_y hs (Y_move rfl ?_)
  refine O_s (S_call (H1 := []) hs rfl Tryz.func38 rfl (by kernel_rfl) (lower_ok) fun v1 G' H' _ hR hG9 hs => ?_)
  obtain ⟨rfl, rfl⟩ := hR
  replace hs : St _ _ [_, _] _ := hs
  replace ho1 := ho1.mono hG9
  replace ho2 := ho2.mono hG9
  refine O_s (S_lit hs Tryz.underlying22 Tryz.sizeOf5 Tryz.zeroValue5 rfl rfl (by decide) (by decide) rfl (cs := [_]) rfl rfl fun v2 _ hs _ => ?_)
  obtain ⟨_, hG10, hl10, hs⟩ := hs.fixRow (noMr 1 hs rfl)
  replace ho1 := ho1.mono hG10
  replace ho2 := ho2.mono hG10
  have hs := hs.front 1 rfl (H' := [_, _]) rfl
  refine O_s (S_append hs Tryz.underlying22 TI5 rfl (by decide) rfl rfl (hl10) (one1 rfl) (by omega) (by omega) fun v3 _ hs => ?_)
  refine O_y hs (Y_assign rfl ?_)
  refine O_nil (T_sub [(6, _)] ⟨rfl, trivial⟩ ?_)
  refine T_ret ?_
  refine Rt_fin (vs := [_]) Tryz.results54 rfl ⟨rfl, trivial⟩ ?_
  try dsimp only [tup]
  exact ⟨_, _, hs.weak hs.le (Ghost.le.refl _) (List.sublist_append_left [_] _), by simp [lowS, byteV]⟩

set_option maxHeartbeats 400000 in
set_option maxRecDepth 10000 in
theorem up_step {G : Ghost} {v v1 : Value} {o : OpV} {out : List UInt8} {x : UInt8} (ho : OpR G v o) (hn : out.length ≤ 1000000000) :
    FnOk Tryz.prog 55 [v, v1, .int .u8 (x.toNat : Int)] G [.row 5 1 v1 out.length (out.map byteV)] fun r _ H' => H' = [.row 5 1 r (upS out x).length ((upS out x).map byteV)] := by
  obtain ⟨u1, u2, rfl, ho1, ho2⟩ := ho
  obtain ⟨A1, c1, rfl, _⟩ := id ho1
  obtain ⟨A2, c2, rfl, _⟩ := id ho2
  refine FnOk.of_T [(0, _), (1, _), (2, _)] Tryz.func55 rfl Tryz.ntmps55 (by simp) rfl fun w0 hs => ?_
  have ho10 := ho1
  have ho20 := ho2
  refine T_seq (T_region rfl ?_)
  refine O_s (S_box hs rfl (cs := [_, _, _]) rfl fun b3 _ hs => ?_)
  refine O_y hs (Y_assign rfl ?_)
  refine O_nil (T_sub [(1, _), (2, _)] ⟨rfl, rfl, trivial⟩ ?_)
  refine T_seq (T_region rfl ?_)
  refine O_y hs (Y_move rfl ?_)
  refine O_y hs (Y_move rfl ?_)
  refine O_s (S_call (H1 := []) hs rfl Tryz.func39 rfl (by kernel_rfl) (upper_ok) fun v1 G' H' _ hR hG9 hs => ?_)
  obtain ⟨rfl, rfl⟩ := hR
  replace hs : St _ _ [_, _] _ := hs
  replace ho1 := ho1.mono hG9
  replace ho2 := ho2.mono hG9
  refine O_s (S_lit hs Tryz.underlying22 Tryz.sizeOf5 Tryz.zeroValue5 rfl rfl (by decide) (by decide) rfl (cs := [_]) rfl rfl fun v2 _ hs _ => ?_)
  obtain ⟨_, hG10, hl10, hs⟩ := hs.fixRow (noMr 1 hs rfl)
  replace ho1 := ho1.mono hG10
  replace ho2 := ho2.mono hG10
  have hs := hs.front 1 rfl (H' := [_, _]) rfl
  refine O_s (S_append hs Tryz.underlying22 TI5 rfl (by decide) rfl rfl (hl10) (one1 rfl) (by omega) (by omega) fun v3 _ hs => ?_)
  refine O_y hs (Y_assign rfl ?_)
  refine O_nil (T_sub [(6, _)] ⟨rfl, trivial⟩ ?_)
  refine T_ret ?_
  refine Rt_fin (vs := [_]) Tryz.results55 rfl ⟨rfl, trivial⟩ ?_
  try dsimp only [tup]
  exact ⟨_, _, hs.weak hs.le (Ghost.le.refl _) (List.sublist_append_left [_] _), by simp [upS, byteV]⟩

set_option maxHeartbeats 400000 in
set_option maxRecDepth 10000 in
theorem drop_step {G : Ghost} {v v1 : Value} {o : OpV} {out : List UInt8} {x : UInt8} (ho : OpR G v o) (hn : out.length ≤ 1000000000) :
    FnOk Tryz.prog 56 [v, v1, .int .u8 (x.toNat : Int)] G [.row 5 1 v1 out.length (out.map byteV)] fun r _ H' => H' = [.row 5 1 r (dropS o.old out x).length ((dropS o.old out x).map byteV)] := by
  obtain ⟨u1, u2, rfl, ho1, ho2⟩ := ho
  obtain ⟨A1, c1, rfl, _⟩ := id ho1
  obtain ⟨A2, c2, rfl, _⟩ := id ho2
  refine FnOk.of_T [(0, _), (1, _), (2, _)] Tryz.func56 rfl Tryz.ntmps56 (by simp) rfl fun w0 hs => ?_
  have ho10 := ho1
  have ho20 := ho2
  refine T_seq (T_region rfl ?_)
  refine O_s (S_box hs rfl (cs := [_, _, _]) rfl fun b3 _ hs => ?_)
  refine O_y hs (Y_assign rfl ?_)
  refine O_nil (T_sub [(1, _), (2, _), (3, _)] ⟨rfl, rfl, rfl, trivial⟩ ?_)
  refine T_seq (T_seq (T_region rfl ?_))
  refine O_y hs (Y_fieldAddr FO24_1 rfl (m := 1) rfl ?_)
  refine O_y hs (Y_ld 0 Tryz.isAgg22 rfl rfl rfl ?_)
  refine O_y hs (Y_move rfl ?_)
  refine O_s (S_call (H1 := []) hs rfl Tryz.func57 rfl (by kernel_rfl) (indexByte_ok ho1 x) fun v1 G' H' _ hR hG10 hs => ?_)
  obtain ⟨rfl, z, rfl, hz⟩ := hR
  replace hs : St _ _ [_, _] _ := hs
  replace ho1 := ho1.mono hG10
  replace ho2 := ho2.mono hG10
  refine O_y hs (Y_cmpS rfl rfl rfl (fun h11 => ?_) (fun h11 => ?_))
  · -- h11: True
    dsimp only [cmpP] at h11
    refine O_nil (T_sub [(1, _), (2, _), (11, _)] ⟨rfl, rfl, rfl, trivial⟩ ?_)
    refine T_condT rfl (T_seq (T_region rfl ?_))
    refine O_y hs (Y_move rfl ?_)
    refine O_y hs (Y_assign rfl ?_)
    refine O_nil (T_sub [(6, _)] ⟨rfl, trivial⟩ ?_)
    refine T_ret ?_
    have hs := hs.front 1 rfl (H' := [_, _]) rfl
    refine Rt_fin (vs := [_]) Tryz.results56 rfl ⟨rfl, trivial⟩ ?_
    try dsimp only [tup]
    exact ⟨_, _, hs.weak hs.le (Ghost.le.refl _) (List.sublist_append_left [_] _), by rw [dropS, if_pos (hz.1 (by omega))]⟩
  · -- h11: False
    dsimp only [cmpP] at h11
    refine O_nil (T_sub [(1, _), (2, _), (11, _)] ⟨rfl, rfl, rfl, trivial⟩ ?_)
    refine T_condF rfl (T_skip ?_)
    refine T_seq (T_region rfl ?_)
    refine O_y hs (Y_move rfl ?_)
    refine O_y hs (Y_move rfl ?_)
    refine O_s (S_lit hs Tryz.underlying22 Tryz.sizeOf5 Tryz.zeroValue5 rfl rfl (by decide) (by decide) rfl (cs := [_]) rfl rfl fun v2 _ hs _ => ?_)
    obtain ⟨_, hG15, hl15, hs⟩ := hs.fixRow (noMr 1 hs rfl)
    replace ho1 := ho1.mono hG15
    replace ho2 := ho2.mono hG15
    have hs := hs.front 1 rfl (H' := [_, _]) rfl
    refine O_s (S_append hs Tryz.underlying22 TI5 rfl (by decide) rfl rfl (hl15) (one1 rfl) (by omega) (by omega) fun v3 _ hs => ?_)
    refine O_y hs (Y_assign rfl ?_)
    refine O_nil (T_sub [(6, _)] ⟨rfl, trivial⟩ ?_)
    refine T_ret ?_
    refine Rt_fin (vs := [_]) Tryz.results56 rfl ⟨rfl, trivial⟩ ?_
    try dsimp only [tup]
    exact ⟨_, _, hs.weak hs.le (Ghost.le.refl _) (List.sublist_append_left [_] _), by rw [dropS, if_neg (fun h => by have := hz.2 h; omega)]; simp [byteV]⟩

set_option maxHeartbeats 400000 in
set_option maxRecDepth 10000 in
theorem sq_step {G : Ghost} {v v1 : Value} {o : OpV} {out : List UInt8} {x : UInt8} (ho : OpR G v o) (hn : out.length ≤ 1000000000) {c : UInt8} (hc : o.old = [c]) :
    FnOk Tryz.prog 58 [v, v1, .int .u8 (x.toNat : Int)] G [.row 5 1 v1 out.length (out.map byteV)] fun r _ H' => H' = [.row 5 1 r (sqS c out x).length ((sqS c out x).map byteV)] := by
  obtain ⟨u1, u2, rfl, ho1, ho2⟩ := ho
  obtain ⟨A1, c1, rfl, _⟩ := id ho1
  obtain ⟨A2, c2, rfl, _⟩ := id ho2
  have hc0 : ∀ h : 0 < o.old.length, o.old[0] = c := fun h => by simp [hc]
  refine FnOk.of_T [(0, _), (1, _), (2, _)] Tryz.func58 rfl Tryz.ntmps58 (by simp) rfl fun w0 hs => ?_
  have ho10 := ho1
  have ho20 := ho2
  refine T_seq (T_region rfl ?_)
  refine O_s (S_box hs rfl (cs := [_, _, _]) rfl fun b3 _ hs => ?_)
  refine O_y hs (Y_assign rfl ?_)
  refine O_nil (T_sub [(1, _), (2, _), (3, _)] ⟨rfl, rfl, rfl, trivial⟩ ?_)
  refine T_seq (T_seq (T_region rfl ?_))
  refine O_y hs (Y_move rfl ?_)
  refine O_y hs (Y_lenOwn 1 rfl Tryz.underlying22 rfl hs ?_)
  refine O_y hs (Y_assign rfl ?_)
  refine O_nil (T_sub [(1, _), (2, _), (3, _), (7, _)] ⟨rfl, rfl, rfl, rfl, trivial⟩ ?_)
  refine T_seq (T_region rfl ?_)
  refine O_y hs (Y_move rfl ?_)
  refine O_y hs (Y_cmpS rfl rfl rfl (fun h11 => ?_) (fun h11 => ?_))
  · -- h11: True
    dsimp only [cmpP] at h11
    refine O_y hs (Y_move rfl ?_)
    refine O_yy 12 hs rfl rfl (Y_move rfl ?_)
    refine O_yy 12 hs rfl rfl (Y_fieldAddr FO24_1 rfl (m := 1) rfl ?_)
    refine O_yy 12 hs rfl rfl (Y_ld 0 Tryz.isAgg22 rfl rfl rfl ?_)
    refine O_yy 12 hs rfl rfl (Y_idxB ho1 0 Tryz.underlying22 Tryz.sizeOf5 rfl rfl rfl (by rw [hc]; exact Nat.zero_lt_one) fun p16 hp16 => ?_)
    refine O_yy 12 hs rfl rfl (Y_ldG Tryz.isAgg5 rfl (hp16) ?_)
    refine O_yy 12 hs rfl rfl (Y_cmpS rfl rfl rfl (fun h18 => ?_) (fun h18 => ?_))
    · -- h18: True
      dsimp only [cmpP] at h18
      refine O_y hs (Y_pickT rfl rfl ?_)
      refine O_y hs (Y_move rfl ?_)
      refine O_yy 20 hs rfl rfl (Y_move rfl ?_)
      refine O_yy 20 hs rfl rfl (Y_move rfl ?_)
      refine O_yy 20 hs rfl rfl (Y_sub (c := ((out.length - 1 : Nat) : Int)) rfl rfl (by omega) (by omega) ?_)
      have hlast : (out.map byteV)[out.length - 1]? = some (.int .u8 ((out[out.length - 1]'(by omega)).toNat : Int)) := by rw [List.getElem?_map, List.getElem?_eq_getElem (by omega)]; rfl
      refine O_yy 20 hs rfl rfl (Y_idxOwn (j := ((out.length - 1 : Nat) : Int)) (out.length - 1) 1 rfl Tryz.underlying22 Tryz.sizeOf5 rfl rfl rfl (by omega) hlast hs fun p24 hp24 => ?_)
      refine O_yy 20 hs rfl rfl (Y_ldOwn Tryz.isAgg5 rfl hp24 ?_)
      refine O_yy 20 hs rfl rfl (Y_move rfl ?_)
      refine O_yy 20 hs rfl rfl (Y_cmpS rfl rfl rfl (fun h27 => ?_) (fun h27 => ?_))
      · -- h27: True
        dsimp only [cmpP] at h27
        refine O_y hs (Y_pickT rfl rfl ?_)
        refine O_nil (T_sub [(1, _), (2, _), (28, _)] ⟨rfl, rfl, rfl, trivial⟩ ?_)
        refine T_condT rfl (T_seq (T_region rfl ?_))
        refine O_y hs (Y_move rfl ?_)
        refine O_y hs (Y_assign rfl ?_)
        refine O_nil (T_sub [(6, _)] ⟨rfl, trivial⟩ ?_)
        refine T_ret ?_
        have hs := hs.front 1 rfl (H' := [_, _]) rfl
        refine Rt_fin (vs := [_]) Tryz.results58 rfl ⟨rfl, trivial⟩ ?_
        try dsimp only [tup]
        have e1 : x = c := (u8i h18).trans (hc0 _)
        have e2 := sq_last.1 ((u8i h27).trans e1)
        exact ⟨_, _, hs.weak hs.le (Ghost.le.refl _) (List.sublist_append_left [_] _), by rw [sqS, if_pos ⟨e1, e2⟩]⟩
      · -- h27: False
        dsimp only [cmpP] at h27
        refine O_y hs (Y_pickT rfl rfl ?_)
        refine O_nil (T_sub [(1, _), (2, _), (28, _)] ⟨rfl, rfl, rfl, trivial⟩ ?_)
        refine T_condF rfl (T_skip ?_)
        refine T_seq (T_region rfl ?_)
        refine O_y hs (Y_move rfl ?_)
        refine O_y hs (Y_move rfl ?_)
        refine O_s (S_lit hs Tryz.underlying22 Tryz.sizeOf5 Tryz.zeroValue5 rfl rfl (by decide) (by decide) rfl (cs := [_]) rfl rfl fun v1 _ hs _ => ?_)
        obtain ⟨_, hG32, hl32, hs⟩ := hs.fixRow (noMr 1 hs rfl)
        replace ho1 := ho1.mono hG32
        replace ho2 := ho2.mono hG32
        have hs := hs.front 1 rfl (H' := [_, _]) rfl
        refine O_s (S_append hs Tryz.underlying22 TI5 rfl (by decide) rfl rfl (hl32) (one1 rfl) (by omega) (by omega) fun v2 _ hs => ?_)
        refine O_y hs (Y_assign rfl ?_)
        refine O_nil (T_sub [(6, _)] ⟨rfl, trivial⟩ ?_)
        refine T_ret ?_
        refine Rt_fin (vs := [_]) Tryz.results58 rfl ⟨rfl, trivial⟩ ?_
        try dsimp only [tup]
        have hne : ¬ (x = c ∧ out.getLast? = some c) := by
          rintro ⟨rfl, h⟩; first | exact h18 (by rw [hc0]) | exact h27 (by rw [sq_last.2 h]) | (cases out <;> simp at h11 h)
        exact ⟨_, _, hs.weak hs.le (Ghost.le.refl _) (List.sublist_append_left [_] _), by rw [sqS, if_neg hne]; simp [byteV]⟩
    · -- h18: False
      dsimp only [cmpP] at h18
      refine O_y hs (Y_pickT rfl rfl ?_)
      refine O_y hs (Y_move rfl ?_)
      refine O_no 20 rfl rfl ?_
      refine O_no 20 rfl rfl ?_
      refine O_no 20 rfl rfl ?_
      refine O_no 20 rfl rfl ?_
      refine O_no 20 rfl rfl ?_
      refine O_no 20 rfl rfl ?_
      refine O_no 20 rfl rfl ?_
      refine O_y hs (Y_pickF rfl rfl ?_)
      refine O_nil (T_sub [(1, _), (2, _), (28, _)] ⟨rfl, rfl, rfl, trivial⟩ ?_)
      refine T_condF rfl (T_skip ?_)
      refine T_seq (T_region rfl ?_)
      refine O_y hs (Y_move rfl ?_)
      refine O_y hs (Y_move rfl ?_)
      refine O_s (S_lit hs Tryz.underlying22 Tryz.sizeOf5 Tryz.zeroValue5 rfl rfl (by decide) (by decide) rfl (cs := [_]) rfl rfl fun v3 _ hs _ => ?_)
      obtain ⟨_, hG32, hl32, hs⟩ := hs.fixRow (noMr 1 hs rfl)
      replace ho1 := ho1.mono hG32
      replace ho2 := ho2.mono hG32
      have hs := hs.front 1 rfl (H' := [_, _]) rfl
      refine O_s (S_append hs Tryz.underlying22 TI5 rfl (by decide) rfl rfl (hl32) (one1 rfl) (by omega) (by omega) fun v4 _ hs => ?_)
      refine O_y hs (Y_assign rfl ?_)
      refine O_nil (T_sub [(6, _)] ⟨rfl, trivial⟩ ?_)
      refine T_ret ?_
      refine Rt_fin (vs := [_]) Tryz.results58 rfl ⟨rfl, trivial⟩ ?_
      try dsimp only [tup]
      have hne : ¬ (x = c ∧ out.getLast? = some c) := by
        rintro ⟨rfl, h⟩; first | exact h18 (by rw [hc0]) | exact h27 (by rw [sq_last.2 h]) | (cases out <;> simp at h11 h)
      exact ⟨_, _, hs.weak hs.le (Ghost.le.refl _) (List.sublist_append_left [_] _), by rw [sqS, if_neg hne]; simp [byteV]⟩
  · -- h11: False
    dsimp only [cmpP] at h11
    refine O_y hs (Y_move rfl ?_)
    refine O_no 12 rfl rfl ?_
    refine O_no 12 rfl rfl ?_
    refine O_no 12 rfl rfl ?_
    refine O_no 12 rfl rfl ?_
    refine O_no 12 rfl rfl ?_
    refine O_no 12 rfl rfl ?_
    refine O_y hs (Y_pickF rfl rfl ?_)
    refine O_y hs (Y_move rfl ?_)
    refine O_no 20 rfl rfl ?_
    refine O_no 20 rfl rfl ?_
    refine O_no 20 rfl rfl ?_
    refine O_no 20 rfl rfl ?_
    refine O_no 20 rfl rfl ?_
    refine O_no 20 rfl rfl ?_
    refine O_no 20 rfl rfl ?_
    refine O_y hs (Y_pickF rfl rfl ?_)
    refine O_nil (T_sub [(1, _), (2, _), (28, _)] ⟨rfl, rfl, rfl, trivial⟩ ?_)
    refine T_condF rfl (T_skip ?_)
    refine T_seq (T_region rfl ?_)
    refine O_y hs (Y_move rfl ?_)
    refine O_y hs (Y_move rfl ?_)
    refine O_s (S_lit hs Tryz.underlying22 Tryz.sizeOf5 Tryz.zeroValue5 rfl rfl (by decide) (by decide) rfl (cs := [_]) rfl rfl fun v5 _ hs _ => ?_)
    obtain ⟨_, hG32, hl32, hs⟩ := hs.fixRow (noMr 1 hs rfl)
    replace ho1 := ho1.mono hG32
    replace ho2 := ho2.mono hG32
    have hs := hs.front 1 rfl (H' := [_, _]) rfl
    refine O_s (S_append hs Tryz.underlying22 TI5 rfl (by decide) rfl rfl (hl32) (one1 rfl) (by omega) (by omega) fun v6 _ hs => ?_)
    refine O_y hs (Y_assign rfl ?_)
    refine O_nil (T_sub [(6, _)] ⟨rfl, trivial⟩ ?_)
    refine T_ret ?_
    refine Rt_fin (vs := [_]) Tryz.results58 rfl ⟨rfl, trivial⟩ ?_
    try dsimp only [tup]
    have hne : ¬ (x = c ∧ out.getLast? = some c) := by
      rintro ⟨rfl, h⟩; first | exact h18 (by rw [hc0]) | exact h27 (by rw [sq_last.2 h]) | (cases out <;> simp at h11 h)
    exact ⟨_, _, hs.weak hs.le (Ghost.le.refl _) (List.sublist_append_left [_] _), by rw [sqS, if_neg hne]; simp [byteV]⟩

set_option maxHeartbeats 400000 in
set_option maxRecDepth 10000 in
theorem each_ok {G : Ghost} {v vb : Value} {o : OpV} {b : List UInt8} {step : List UInt8 → UInt8 → List UInt8} {g bf : Nat} {fnn : Func} (ho : OpR G v o) (hb : Bytes G vb b) (hcell : Cell G bf (.func (.func g) #[] #[])) (hfn : Tryz.prog.funcs[g]? = some fnn) (hbd : fnn.body.isSome = true) (hnm : (fnn.name == "runtime.NumGoroutine") = false) (hst : ∀ (G' : Ghost) (out : List UInt8) (v' : Value) (x : UInt8), G.le G' → out.length ≤ 1000000000 → FnOk Tryz.prog g [v, v', .int .u8 (x.toNat : Int)] G' [.row 5 1 v' out.length (out.map byteV)] fun r _ H' => H' = [.row 5 1 r (step out x).length ((step out x).map byteV)]) (hlen : ∀ out x, (step out x).length ≤ out.length + 1) (hl : b.length ≤ 1000000000) :
    FnOk Tryz.prog 53 [v, vb, .pointer (some ⟨bf, 0, none⟩)] G [] fun r G' H' => H' = [] ∧ ∃ u, r = .tuple #[u, .bool true] ∧ Bytes G' u (b.foldl step []) := by
  obtain ⟨u1, u2, rfl, ho1, ho2⟩ := ho
  obtain ⟨A1, c1, rfl, _⟩ := id ho1
  obtain ⟨A2, c2, rfl, _⟩ := id ho2
  obtain ⟨A, cap, rfl, _⟩ := id hb
  have hll : ∀ k, ((b.take k).foldl step []).length ≤ k := fun k => by have := fold_len hlen (b.take k) []; rw [List.length_take] at this; simp only [List.length_nil] at this; omega
  refine FnOk.of_T [(0, _), (1, _), (2, _)] Tryz.func53 rfl Tryz.ntmps53 (by simp) rfl fun w0 hs => ?_
  have hb0 := hb
  have hcell0 := hcell
  refine T_seq (T_region rfl ?_)
  refine O_s (S_box hs rfl (cs := [_, _, _]) rfl fun b3 _ hs => ?_)
  refine O_y hs (Y_assign rfl ?_)
  refine O_y hs (Y_assign rfl ?_)
  refine O_nil (T_sub [(1, _), (2, _), (3, _)] ⟨rfl, rfl, rfl, trivial⟩ ?_)
  refine T_seq (T_region rfl ?_)
  refine O_y hs (Y_assign rfl ?_)
  refine O_nil (T_sub [(1, _), (2, _), (3, _), (7, _)] ⟨rfl, rfl, rfl, rfl, trivial⟩ ?_)
  refine T_seq (T_seq (T_region rfl ?_))
  refine O_y hs (Y_move rfl ?_)
  refine O_y hs (Y_len Tryz.underlying22 rfl ?_)
  refine O_y hs (Y_move rfl ?_)
  refine O_nil (T_sub [(2, _), (3, _), (7, _), (10, _), (11, _), (12, _)] ⟨rfl, rfl, rfl, rfl, rfl, rfl, trivial⟩ ?_)
  have hs := hs.nilRow 5 1
  refine T_block (T_loop (fun m E w => ∃ (k : Nat) (v7 : Value) (G' : Ghost), k ≤ b.length ∧ m = b.length - k ∧ E = ⟨[], [(2, .pointer (some ⟨bf, 0, none⟩)), (3, .pointer (some ⟨b3, 0, none⟩)), (7, v7), (10, (.slice A b.length cap)), (11, .int .i64 ((b.length : Nat) : Int)), (12, .int .i64 (k : Int))]⟩ ∧ St ⟨w0, G, feet []⟩ G' [.row 5 1 v7 ((b.take k).foldl step []).length (((b.take k).foldl step []).map byteV), .blk b3 24 [.int .i64 o.kind, .slice A1 o.old.length c1, .slice A2 o.new.length c2]] w) (L := [(2, _), (3, _), (7, _), (10, _), (11, _), (12, _)]) ⟨rfl, rfl, rfl, rfl, rfl, rfl, trivial⟩ (⟨0, _, _, by omega, rfl, rfl, hs⟩) fun m E w hI => ?_)
  obtain ⟨k, v7, G', hk, rfl, rfl, hs⟩ := hI
  have hb := hb0.mono hs.le
  have hcell := hcell0.mono hs.le
  refine T_seq (T_region rfl ?_)
  refine O_y hs (Y_cmpS rfl rfl rfl (fun h13 => ?_) (fun h13 => ?_))
  · -- h13: True
    dsimp only [cmpP] at h13
    refine O_nil (T_sub [(2, _), (3, _), (7, _), (10, _), (11, _), (12, _), (13, _)] ⟨rfl, rfl, rfl, rfl, rfl, rfl, rfl, trivial⟩ ?_)
    refine T_seq (T_condT rfl (T_skip ?_))
    refine T_seq (T_block (T_seq (T_region rfl ?_)))
    refine O_y hs (Y_idxB hb k Tryz.underlying22 Tryz.sizeOf5 rfl rfl rfl (by omega) fun p14 hp14 => ?_)
    refine O_y hs (Y_ldG Tryz.isAgg5 rfl (hp14) ?_)
    refine O_y hs (Y_assign rfl ?_)
    refine O_nil (T_sub [(2, _), (3, _), (7, _), (9, _), (10, _), (11, _), (12, _)] ⟨rfl, rfl, rfl, rfl, rfl, rfl, rfl, trivial⟩ ?_)
    refine T_region rfl ?_
    refine O_y hs (Y_ldG Tryz.isAgg92 rfl (hcell) ?_)
    refine O_y hs (Y_ldA 1 Tryz.isAgg24 Tryz.sizeOf24 rfl rfl (vs := [_, _, _]) rfl rfl ?_)
    refine O_y hs (Y_move rfl ?_)
    refine O_y hs (Y_move rfl ?_)
    refine O_s (S_callV (args := [_, _, _]) (lb := []) (H1 := [_]) hs rfl rfl hfn hbd hnm (hst _ _ _ _ hs.le (by have := hll k; omega)) fun v1 G' H' _ hR hG20 hs => ?_)
    obtain rfl := hR
    replace hs : St _ _ [_, _] _ := hs
    replace hb := hb.mono hG20
    replace hcell := hcell.mono hG20
    refine O_y hs (Y_assign rfl ?_)
    refine O_nil (T_sub [(2, _), (3, _), (7, _), (10, _), (11, _), (12, _)] ⟨rfl, rfl, rfl, rfl, rfl, rfl, trivial⟩ ?_)
    refine T_region rfl ?_
    refine O_y hs (Y_add (c := ((k + 1 : Nat) : Int)) rfl rfl (by omega) (by omega) ?_)
    refine O_y hs (Y_move rfl ?_)
    refine O_nil ⟨_, ?_, [(2, _), (3, _), (7, _), (10, _), (11, _), (12, _)], ⟨rfl, rfl, rfl, rfl, rfl, rfl, trivial⟩, ⟨k + 1, _, _, by omega, rfl, rfl, by rw [foldl_take_succ _ _ b k (by omega)]; exact hs⟩⟩
    omega
  · -- h13: False
    dsimp only [cmpP] at h13
    refine O_nil (T_sub [(2, _), (3, _), (7, _), (10, _), (11, _), (12, _), (13, _)] ⟨rfl, rfl, rfl, rfl, rfl, rfl, rfl, trivial⟩ ?_)
    refine T_seq (T_condF rfl (T_exit ?_))
    refine T_seq (T_region rfl ?_)
    refine O_y hs (Y_move rfl ?_)
    refine O_y hs (Y_assign rfl ?_)
    refine O_y hs (Y_assign rfl ?_)
    refine O_nil (T_sub [(5, _), (6, _)] ⟨rfl, rfl, trivial⟩ ?_)
    refine T_ret ?_
    refine Rt_fin (vs := [_, _]) Tryz.results53 rfl ⟨rfl, rfl, trivial⟩ ?_
    try dsimp only [tup]
    obtain rfl : k = b.length := by omega
    rw [List.take_length] at hs
    obtain ⟨G', hG, hf, hs3⟩ := hs.fixRow noM
    exact ⟨G', [], hs3.done, rfl, _, rfl, hf⟩

set_option maxHeartbeats 400000 in
set_option maxRecDepth 10000 in
theorem index_one {G : Ghost} {v v2 : Value} {l : List UInt8} {x : UInt8} (hb : Bytes G v l) (hc : Bytes G v2 [x]) :
    FnOk Tryz.prog 97 [v, v2] G [] fun r _ H' => H' = [] ∧ r = .int .i64 (Lib.indexByte l x) := by
  obtain ⟨A, cap, rfl, _⟩ := id hb
  obtain ⟨A2, c2, rfl, _⟩ := id hc
  refine FnOk.of_T [(0, _), (1, _)] Tryz.func97 rfl Tryz.ntmps97 (by simp) rfl fun w0 hs => ?_
  refine T_seq (T_region rfl ?_)
  refine O_y hs (Y_assign rfl ?_)
  refine O_nil (T_sub [(0, _), (1, _)] ⟨rfl, rfl, trivial⟩ ?_)
  refine T_seq (T_region rfl ?_)
  refine O_y hs (Y_move rfl ?_)
  refine O_y hs (Y_len Tryz.underlying22 rfl ?_)
  refine O_y hs (Y_assign rfl ?_)
  refine O_nil (T_sub [(0, _), (1, _), (5, _)] ⟨rfl, rfl, rfl, trivial⟩ ?_)
  refine T_seq (T_block (T_seq (T_region rfl ?_)))
  refine O_y hs (Y_move rfl ?_)
  refine O_y hs (Y_cmpF rfl rfl rfl (by simp [cmpP]) ?_)
  refine O_y hs (Y_assign rfl ?_)
  refine O_nil (T_sub [(0, _), (1, _), (5, _), (22, _)] ⟨rfl, rfl, rfl, rfl, trivial⟩ ?_)
  refine T_condF rfl (T_seq (T_region rfl ?_))
  refine O_y hs (Y_move rfl ?_)
  refine O_y hs (Y_cmpT rfl rfl rfl (by simp [cmpP]) ?_)
  refine O_y hs (Y_assign rfl ?_)
  refine O_nil (T_sub [(0, _), (1, _), (5, _), (25, _)] ⟨rfl, rfl, rfl, rfl, trivial⟩ ?_)
  refine T_condT rfl (T_seq (T_region rfl ?_))
  refine O_y hs (Y_move rfl ?_)
  refine O_y hs (Y_move rfl ?_)
  refine O_y hs (Y_idxB hc 0 Tryz.underlying22 Tryz.sizeOf5 rfl rfl rfl (by exact Nat.zero_lt_one) fun p30 hp30 => ?_)
  refine O_y hs (Y_ldG Tryz.isAgg5 rfl (hp30) ?_)
  refine O_s (S_call (H1 := []) hs rfl Tryz.func57 rfl (by kernel_rfl) (idxByte_raw hb) fun v1 G' H' _ hR hG32 hs => ?_)
  obtain ⟨rfl, rfl⟩ := hR
  replace hs : St _ _ [] _ := hs
  refine O_y hs (Y_assign rfl ?_)
  refine O_nil (T_sub [(4, _)] ⟨rfl, trivial⟩ ?_)
  refine T_ret ?_
  refine Rt_fin (vs := [_]) Tryz.results97 rfl ⟨rfl, trivial⟩ ?_
  try dsimp only [tup]
  exact ⟨_, [], hs.done, rfl, rfl⟩

theorem idxI_lib (old : List UInt8) : ∀ l : List UInt8, Lib.index l old = idxI old l
  | [] => by
    unfold Lib.index idxI idxF
    by_cases h : old = []
    · subst h; rfl
    · rw [if_neg h]; cases old with
      | nil => exact absurd rfl h
      | cons _ _ => rfl
  | b :: l => by
    have ih := idxI_lib old l
    unfold Lib.index
    rw [ih]
    unfold idxI
    rw [idxF]
    by_cases h : old.isPrefixOf (b :: l) = true
    · rw [if_pos h, if_pos h]; rfl
    · rw [if_neg h, if_neg h]
      cases hj : idxF old l with
      | none => simp
      | some j =>
        have : ¬ ((j : Int) = -1) := by omega
        simp [this]
theorem idxI_one (x : UInt8) : ∀ l : List UInt8, Lib.indexByte l x = idxI [x] l
  | [] => rfl
  | b :: l => by
    have ih := idxI_one x l
    unfold Lib.indexByte
    rw [ih]
    unfold idxI
    rw [idxF]
    by_cases h : b = x
    · subst h; simp [List.isPrefixOf]
    · have h1 : (b == x) = false := by simpa using h
      have h2 : ¬ [x].isPrefixOf (b :: l) = true := by simp [List.isPrefixOf, Ne.symm h]
      rw [if_neg h2, h1]
      cases hj : idxF [x] l with
      | none => simp
      | some j =>
        have : ¬ ((j : Int) = -1) := by omega
        simp [this]
theorem idxF_short {old : List UInt8} : ∀ {l : List UInt8}, l.length < old.length → idxF old l = none
  | [], h => by unfold idxF; rw [if_neg (fun h0 => by subst h0; simp at h)]
  | b :: l, h => by
    have h2 : ¬ old.isPrefixOf (b :: l) = true := fun hp => by
      have := (List.isPrefixOf_iff_prefix.1 hp).length_le; omega
    rw [idxF, if_neg h2, idxF_short (by simp at h ⊢; omega)]; rfl
theorem index_ok {G : Ghost} {v v2 : Value} {l old : List UInt8} (hb : Bytes G v l) (hc : Bytes G v2 old) (ho : old ≠ []) (hl : l.length ≤ 1000000000) (ho2 : old.length ≤ 1000000000) (hm : ∃ m : Int, gcell G ⟨0, 0, none⟩ = some (.int .i64 m)) :
    FnOk Tryz.prog 97 [v, v2] G [] fun r _ H' => H' = [] ∧ r = .int .i64 (idxI old l) := by
  by_cases h1 : old.length = 1
  · obtain ⟨x, rfl⟩ := List.length_eq_one_iff.1 h1
    rw [← idxI_one]; exact index_one hb hc
  have h2 : 2 ≤ old.length := by
    cases old with
    | nil => exact absurd rfl ho
    | cons _ t => cases t with
      | nil => simp at h1
      | cons _ _ => simp
  obtain ⟨A, cap, rfl, hS⟩ := id hb
  obtain ⟨A2, c2, rfl, _⟩ := id hc
  intro w hw
  by_cases hlt : l.length < old.length
  · refine (Tryz.bytes_Index_longer A A2 l.length cap old.length c2 w h2 hlt (by omega)).mono ?_
    rintro e w' ⟨rfl, rfl⟩
    exact ⟨_, G, [], rfl, hw, rfl, by unfold idxI; rw [idxF_short hlt]⟩
  · obtain ⟨a, rfl, ha⟩ := cells_of hb (by omega)
    obtain ⟨a2, rfl, ha2⟩ := cells_of hc (by omega)
    obtain ⟨m, hm⟩ := hm
    have hr : ∀ (q : List UInt8), ∀ z ∈ q.map (fun b : UInt8 => (b.toNat : Int)), 0 ≤ z ∧ z < 256 := fun q z hz => by
      obtain ⟨b, _, rfl⟩ := List.mem_map.1 hz
      have := b.toNat_lt; omega
    refine (Tryz.bytes_Index_at a a2 l.length cap old.length c2 (l.map fun b : UInt8 => (b.toNat : Int)) (old.map fun b : UInt8 => (b.toNat : Int)) m w (by simp) (by simp) (hr l) (hr old) (fun i hi => hw.cell (ha i hi)) (fun i hi => hw.cell (ha2 i hi)) hS.2.1 (by omega) (by omega) (hw.cell hm)).mono ?_
    rintro e w' ⟨rfl, q, rfl⟩
    refine ⟨_, G, [], rfl, ⟨hw.os, hw.tape, hw.output, hw.size, hw.old, hw.le, hw.new, hw.ghost, hw.hold, hw.off, hw.apart⟩, rfl, ?_⟩
    rw [bytesOf_nums, bytesOf_nums, idxI_lib]


/-- The table of operations: the boxed steps lie at b1, b2, b7, b8. -/
def opsE (b1 b2 b7 b8 : Nat) : List MapEntry :=
  [mapE (.int .i64 1) (.agg #[.func (.func 53) #[] #[.pointer (some ⟨b1, 0, none⟩)]]) 0, mapE (.int .i64 2) (.agg #[.func (.func 53) #[] #[.pointer (some ⟨b2, 0, none⟩)]]) 1,
   mapE (.int .i64 7) (.agg #[.func (.func 53) #[] #[.pointer (some ⟨b7, 0, none⟩)]]) 2, mapE (.int .i64 8) (.agg #[.func (.func 53) #[] #[.pointer (some ⟨b8, 0, none⟩)]]) 3,
   mapE (.int .i64 3) (.agg #[.func (.func 59) #[] #[]]) 4, mapE (.int .i64 4) (.agg #[.func (.func 61) #[] #[]]) 5, mapE (.int .i64 5) (.agg #[.func (.func 62) #[] #[]]) 6, mapE (.int .i64 6) (.agg #[.func (.func 64) #[] #[]]) 7]
theorem field_do {v : Value} (w : World) : (Instr.field 60 (.agg #[v]) 0).run Tryz.prog w = .ok v w := by
  simp [Instr.field, run_underlying Tryz.underlying60, part, Tryz.isAgg31, asAgg]
theorem OpR.mono {G G' : Ghost} (h : G.le G') {v : Value} {o : OpV} (ho : OpR G v o) : OpR G' v o := by
  obtain ⟨u1, u2, rfl, h1, h2⟩ := ho
  exact ⟨u1, u2, rfl, h1.mono h, h2.mono h⟩


set_option maxHeartbeats 400000 in
set_option maxRecDepth 10000 in
theorem each_mk {G : Ghost} {g : Nat} :
    FnOk Tryz.prog 52 [.func (.func g) #[] #[]] G [] fun r G' H' => H' = [] ∧ ∃ b, r = .agg #[.func (.func 53) #[] #[.pointer (some ⟨b, 0, none⟩)]] ∧ Cell G' b (.func (.func g) #[] #[]) := by
  refine FnOk.of_T [(0, _)] Tryz.func52 rfl Tryz.ntmps52 (by simp) rfl fun w0 hs => ?_
  refine T_seq (T_region rfl ?_)
  refine O_s (S_box hs rfl (cs := [_]) rfl fun b1 _ hs => ?_)
  refine O_s (S_alloc hs Tryz.zeroValue60 (cs := [_]) rfl fun b2 _ hs => ?_)
  refine O_nil (T_sub [(1, _), (2, _)] ⟨rfl, rfl, trivial⟩ ?_)
  refine T_seq (T_region rfl ?_)
  refine O_y hs (Y_makeFunc (vs := [_]) rfl ?_)
  refine O_y hs (Y_build Tryz.zeroValue60 rfl PL60 rfl (cs := [_]) rfl ?_)
  refine O_n (S_stA hs Tryz.sizeOf60 rfl rfl (vs := [_]) rfl (rfl) (by simp) (cs' := [_]) rfl fun _ hs => ?_)
  refine O_nil (T_sub [(2, _)] ⟨rfl, trivial⟩ ?_)
  refine T_ret ?_
  have hr := hs
  refine Rt_fin (vs := [_]) Tryz.results52 rfl ⟨ResOk_blk 0 hr Tryz.isAgg60 Tryz.sizeOf60 rfl (cs := [_]) rfl rfl, trivial⟩ ?_
  try dsimp only [tup]
  have hs := hs.front 1 rfl (H' := [_, _]) rfl
  obtain ⟨G', hG, hf, hs3⟩ := hs.fixBlk (fun k _ => noMb k)
  exact ⟨G', [], hs3.done, rfl, _, rfl, hf 0 _ rfl⟩

set_option maxHeartbeats 400000 in
set_option maxRecDepth 10000 in
theorem ops_ok {G : Ghost} :
    FnOk Tryz.prog 28 [] G [] fun r G' H' => ∃ b b1 b2 b7 b8, r = .map (some b) ∧ H' = [.obj b (.map (opsE b1 b2 b7 b8).toArray 8)] ∧ Cell G' b1 (.func (.func 54) #[] #[]) ∧ Cell G' b2 (.func (.func 55) #[] #[]) ∧ Cell G' b7 (.func (.func 56) #[] #[]) ∧ Cell G' b8 (.func (.func 58) #[] #[]) := by
  refine FnOk.of_T [] Tryz.func28 rfl Tryz.ntmps28 (by simp) rfl fun w0 hs => ?_
  refine T_seq (T_region rfl ?_)
  refine O_y hs (Y_assign rfl ?_)
  refine O_nil (T_sub [] trivial ?_)
  refine T_seq (T_region rfl ?_)
  refine O_y hs (Y_assign rfl ?_)
  refine O_nil (T_sub [(1, _)] ⟨rfl, trivial⟩ ?_)
  refine T_seq (T_region rfl ?_)
  refine O_s (S_makeMap hs fun b2 _ hs => ?_)
  refine O_y hs (Y_move rfl ?_)
  refine O_s (S_callV (args := [_]) (lb := []) (H1 := []) hs rfl rfl Tryz.func52 rfl (by kernel_rfl) (each_mk) fun v1 G' H' _ hR hG4 hs => ?_)
  obtain ⟨rfl, b4, rfl, hc4⟩ := hR
  replace hs : St _ _ [_] _ := hs
  refine O_n (S_mapInsI hs Tryz.underlying61 Tryz.underlying3 rfl rfl rfl rfl fun _ hs => ?_)
  refine O_y hs (Y_move rfl ?_)
  refine O_s (S_callV (args := [_]) (lb := []) (H1 := []) hs rfl rfl Tryz.func52 rfl (by kernel_rfl) (each_mk) fun v2 G' H' _ hR hG6 hs => ?_)
  obtain ⟨rfl, b6, rfl, hc6⟩ := hR
  replace hs : St _ _ [_] _ := hs
  replace hc4 := hc4.mono hG6
  refine O_n (S_mapInsI hs Tryz.underlying61 Tryz.underlying3 rfl rfl rfl rfl fun _ hs => ?_)
  refine O_y hs (Y_move rfl ?_)
  refine O_s (S_callV (args := [_]) (lb := []) (H1 := []) hs rfl rfl Tryz.func52 rfl (by kernel_rfl) (each_mk) fun v3 G' H' _ hR hG8 hs => ?_)
  obtain ⟨rfl, b8, rfl, hc8⟩ := hR
  replace hs : St _ _ [_] _ := hs
  replace hc4 := hc4.mono hG8
  replace hc6 := hc6.mono hG8
  refine O_n (S_mapInsI hs Tryz.underlying61 Tryz.underlying3 rfl rfl rfl rfl fun _ hs => ?_)
  refine O_y hs (Y_move rfl ?_)
  refine O_s (S_callV (args := [_]) (lb := []) (H1 := []) hs rfl rfl Tryz.func52 rfl (by kernel_rfl) (each_mk) fun v4 G' H' _ hR hG10 hs => ?_)
  obtain ⟨rfl, b10, rfl, hc10⟩ := hR
  replace hs : St _ _ [_] _ := hs
  replace hc4 := hc4.mono hG10
  replace hc6 := hc6.mono hG10
  replace hc8 := hc8.mono hG10
  refine O_n (S_mapInsI hs Tryz.underlying61 Tryz.underlying3 rfl rfl rfl rfl fun _ hs => ?_)
  refine O_y hs (Y_build Tryz.zeroValue60 rfl PL60 rfl (cs := [_]) rfl ?_)
  refine O_n (S_mapInsI hs Tryz.underlying61 Tryz.underlying3 rfl rfl rfl rfl fun _ hs => ?_)
  refine O_y hs (Y_build Tryz.zeroValue60 rfl PL60 rfl (cs := [_]) rfl ?_)
  refine O_n (S_mapInsI hs Tryz.underlying61 Tryz.underlying3 rfl rfl rfl rfl fun _ hs => ?_)
  refine O_y hs (Y_build Tryz.zeroValue60 rfl PL60 rfl (cs := [_]) rfl ?_)
  refine O_n (S_mapInsI hs Tryz.underlying61 Tryz.underlying3 rfl rfl rfl rfl fun _ hs => ?_)
  refine O_y hs (Y_build Tryz.zeroValue60 rfl PL60 rfl (cs := [_]) rfl ?_)
  refine O_n (S_mapInsI hs Tryz.underlying61 Tryz.underlying3 rfl rfl rfl rfl fun _ hs => ?_)
  refine O_y hs (Y_move rfl ?_)
  refine O_y hs (Y_assign rfl ?_)
  refine O_nil (T_sub [(0, _)] ⟨rfl, trivial⟩ ?_)
  refine T_ret ?_
  refine Rt_fin (vs := [_]) Tryz.results28 rfl ⟨rfl, trivial⟩ ?_
  try dsimp only [tup]
  exact ⟨_, _, hs, _, b4, b6, b8, b10, rfl, rfl, hc4, hc6, hc8, hc10⟩

theorem hex_eq {G : Ghost} {x : UInt8} {q : Bool} (hq : (hexF x).isSome = q) :
    FnOk Tryz.prog 73 [.int .u8 (x.toNat : Int)] G [] fun r _ H' => H' = [] ∧ r = .tuple #[.int .u8 (((hexF x).getD 0).toNat : Int), .bool q] := by
  subst hq; exact hex_ok


set_option maxHeartbeats 400000 in
set_option maxRecDepth 10000 in
theorem dec_t {G : Ghost} {v : Value} {b : List UInt8} (hb : Bytes G v b) (hl : b.length ≤ 1000000000) :
    FnOk Tryz.prog 60 [v, .bool true] G [] fun r G' H' => H' = [] ∧ ∃ u, r = .tuple #[u, .bool (percF true 0 b).isSome] ∧ Bytes G' u ((percF true 0 b).getD []) := by
  obtain ⟨A, cap, rfl, _⟩ := id hb
  refine FnOk.of_T [(0, _), (1, _)] Tryz.func60 rfl Tryz.ntmps60 (by simp) rfl fun w0 hs => ?_
  refine T_seq (T_region rfl ?_)
  refine O_y hs (Y_assign rfl ?_)
  refine O_y hs (Y_assign rfl ?_)
  refine O_nil (T_sub [(0, _), (1, _)] ⟨rfl, rfl, trivial⟩ ?_)
  refine T_seq (T_region rfl ?_)
  refine O_y hs (Y_assign rfl ?_)
  refine O_nil (T_sub [(0, _), (1, _), (6, _)] ⟨rfl, rfl, rfl, trivial⟩ ?_)
  have hs := hs.nilRow 5 1
  refine T_seq (T_block (T_loop (fun m E w => ∃ (rest out : List UInt8) (A : Option Addr) (cap : Nat) (v6 : Value) (G' : Ghost), percF true 0 b = (percF true 0 rest).map (out ++ ·) ∧ Bytes G' (.slice A rest.length cap) rest ∧ out.length + rest.length ≤ b.length ∧ m = rest.length ∧ E = ⟨[], [(0, (.slice A rest.length cap)), (1, .bool true), (6, v6)]⟩ ∧ St ⟨w0, G, feet []⟩ G' [.row 5 1 v6 out.length (out.map byteV)] w) (L := [(0, _), (1, _), (6, _)]) ⟨rfl, rfl, rfl, trivial⟩ (⟨b, [], _, _, _, _, by simp, hb, by simp, rfl, rfl, hs⟩) fun m E w hI => ?_))
  obtain ⟨rest, out, A, cap, v6, G', hp, hr, hn, rfl, rfl, hs⟩ := hI
  refine T_seq (T_seq (T_region rfl ?_))
  refine O_y hs (Y_move rfl ?_)
  refine O_y hs (Y_len Tryz.underlying22 rfl ?_)
  refine O_y hs (Y_cmpS rfl rfl rfl (fun h13 => ?_) (fun h13 => ?_))
  · -- h13: True
    dsimp only [cmpP] at h13
    refine O_nil (T_sub [(0, _), (1, _), (6, _), (13, _)] ⟨rfl, rfl, rfl, rfl, trivial⟩ ?_)
    refine T_condT rfl (T_skip ?_)
    obtain ⟨a, t, rfl⟩ := cons_of (show 0 < rest.length by omega)
    refine T_block (T_seq (T_seq (T_region rfl ?_)))
    refine O_y hs (Y_move rfl ?_)
    refine O_y hs (Y_idxB hr 0 Tryz.underlying22 Tryz.sizeOf5 rfl rfl rfl (by simp) fun p15 hp15 => ?_)
    refine O_y hs (Y_ldG Tryz.isAgg5 rfl (hp15) ?_)
    refine O_y hs (Y_cmpS rfl rfl rfl (fun h17 => ?_) (fun h17 => ?_))
    · -- h17: True
      dsimp only [cmpP] at h17
      refine O_y hs (Y_move rfl ?_)
      refine O_yy 18 hs rfl rfl (Y_move rfl ?_)
      refine O_yy 18 hs rfl rfl (Y_len Tryz.underlying22 rfl ?_)
      refine O_yy 18 hs rfl rfl (Y_cmpS rfl rfl rfl (fun h21 => ?_) (fun h21 => ?_))
      · -- h21: True
        dsimp only [cmpP] at h21
        refine O_y hs (Y_pickT rfl rfl ?_)
        refine O_nil (T_sub [(0, _), (1, _), (6, _), (22, _)] ⟨rfl, rfl, rfl, rfl, trivial⟩ ?_)
        obtain ⟨x1, x2, tl, rfl⟩ := cons2_of (show 2 ≤ t.length by simp only [List.length_cons] at h21; omega)
        obtain ⟨ok1, hok1⟩ : ∃ q, (hexF x1).isSome = q := ⟨_, rfl⟩
        obtain ⟨ok2, hok2⟩ : ∃ q, (hexF x2).isSome = q := ⟨_, rfl⟩
        refine T_condT rfl (T_seq (T_region rfl ?_))
        refine O_y hs (Y_move rfl ?_)
        refine O_y hs (Y_idxB hr 1 Tryz.underlying22 Tryz.sizeOf5 rfl rfl rfl (by simp) fun p25 hp25 => ?_)
        refine O_y hs (Y_ldG Tryz.isAgg5 rfl (hp25) ?_)
        refine O_s (S_call (H1 := []) hs rfl Tryz.func73 rfl (by kernel_rfl) (hex_eq hok1) fun v1 G' H' _ hR hG27 hs => ?_)
        obtain ⟨rfl, rfl⟩ := hR
        replace hs : St _ _ [_] _ := hs
        replace hr := hr.mono hG27
        refine O_y hs (Y_move rfl ?_)
        refine O_y hs (Y_extract rfl rfl ?_)
        refine O_y hs (Y_extract rfl rfl ?_)
        refine O_y hs (Y_assign rfl ?_)
        refine O_y hs (Y_assign rfl ?_)
        refine O_nil (T_sub [(0, _), (1, _), (6, _), (7, _), (8, _)] ⟨rfl, rfl, rfl, rfl, rfl, trivial⟩ ?_)
        refine T_seq (T_region rfl ?_)
        refine O_y hs (Y_move rfl ?_)
        refine O_y hs (Y_idxB hr 2 Tryz.underlying22 Tryz.sizeOf5 rfl rfl rfl (by simp) fun p32 hp32 => ?_)
        refine O_y hs (Y_ldG Tryz.isAgg5 rfl (hp32) ?_)
        refine O_s (S_call (H1 := []) hs rfl Tryz.func73 rfl (by kernel_rfl) (hex_eq hok2) fun v2 G' H' _ hR hG34 hs => ?_)
        obtain ⟨rfl, rfl⟩ := hR
        replace hs : St _ _ [_] _ := hs
        replace hr := hr.mono hG34
        refine O_y hs (Y_move rfl ?_)
        refine O_y hs (Y_extract rfl rfl ?_)
        refine O_y hs (Y_extract rfl rfl ?_)
        refine O_y hs (Y_assign rfl ?_)
        refine O_y hs (Y_assign rfl ?_)
        refine O_nil (T_sub [(0, _), (1, _), (6, _), (7, _), (8, _), (9, _), (10, _)] ⟨rfl, rfl, rfl, rfl, rfl, rfl, rfl, trivial⟩ ?_)
        refine T_seq (T_region rfl ?_)
        refine O_y hs (Y_move rfl ?_)
        cases ok1
        · -- ok1: False
          refine O_y hs (Y_move rfl ?_)
          refine O_no 38 rfl rfl ?_
          refine O_y hs (Y_pickF rfl rfl ?_)
          refine O_nil (T_sub [(0, _), (1, _), (6, _), (7, _), (9, _), (40, _)] ⟨rfl, rfl, rfl, rfl, rfl, rfl, trivial⟩ ?_)
          refine T_condF rfl (T_skip ?_)
          refine T_seq (T_seq (T_region rfl ?_))
          refine O_y hs (Y_move rfl ?_)
          refine O_y hs (Y_idxB hr 0 Tryz.underlying22 Tryz.sizeOf5 rfl rfl rfl (by simp) fun p51 hp51 => ?_)
          refine O_y hs (Y_ldG Tryz.isAgg5 rfl (hp51) ?_)
          refine O_y hs (Y_cmpT rfl rfl rfl (h17) ?_)
          refine O_y hs (Y_move rfl ?_)
          refine O_yy 54 hs rfl rfl (Y_move rfl ?_)
          refine O_yy 54 hs rfl rfl (Y_not rfl ?_)
          refine O_y hs (Y_pickT rfl rfl ?_)
          refine O_nil (T_sub [(0, _), (1, _), (6, _), (57, _)] ⟨rfl, rfl, rfl, rfl, trivial⟩ ?_)
          refine T_condF rfl (T_skip ?_)
          refine T_seq (T_region rfl ?_)
          refine O_y hs (Y_move rfl ?_)
          refine O_y hs (Y_move rfl ?_)
          refine O_y hs (Y_idxB hr 0 Tryz.underlying22 Tryz.sizeOf5 rfl rfl rfl (by simp) fun p60 hp60 => ?_)
          refine O_y hs (Y_ldG Tryz.isAgg5 rfl (hp60) ?_)
          refine O_s (S_lit hs Tryz.underlying22 Tryz.sizeOf5 Tryz.zeroValue5 rfl rfl (by decide) (by decide) rfl (cs := [_]) rfl rfl fun v3 _ hs _ => ?_)
          obtain ⟨_, hG62, hl62, hs⟩ := hs.fixRow noM
          replace hr := hr.mono hG62
          refine O_s (S_append hs Tryz.underlying22 TI5 rfl (by decide) rfl rfl (hl62) (one1 rfl) (by simp only [List.length_cons] at hn; omega) (by simp only [List.length_cons] at hn; omega) fun v4 _ hs => ?_)
          refine O_y hs (Y_assign rfl ?_)
          refine O_nil (T_sub [(0, _), (1, _), (6, _)] ⟨rfl, rfl, rfl, trivial⟩ ?_)
          refine T_region rfl ?_
          refine O_y hs (Y_move rfl ?_)
          refine O_y hs (Y_sliceB hr 1 (a :: x1 :: x2 :: tl).length Tryz.underlying22 Tryz.sizeOf5 rfl ⟨_, _, rfl, rfl⟩ rfl (by simp) (by omega) fun s65 hs65 => ?_)
          obtain ⟨A65, c65, rfl, _⟩ := id hs65
          refine O_y hs (Y_assign rfl ?_)
          refine O_nil ⟨_, ?_, [(0, _), (1, _), (6, _)], ⟨rfl, rfl, rfl, trivial⟩, ⟨_, out ++ [a], _, _, _, _, by rw [hp, perc_none_t (a := a) h17 (pairF_1 hok1), Option.map_map, tk1 a (x1 :: x2 :: tl)]; simp [Function.comp_def], hs65, by rw [tk1 a (x1 :: x2 :: tl)]; simp only [List.length_append, List.length_cons, List.length_nil] at hn ⊢; omega, rfl, rfl, by simpa [byteV, u8_16] using hs⟩⟩
          first | (rw [tk3]; simp only [List.length_cons]; omega) | (rw [tk1]; simp only [List.length_cons]; omega)
        · -- ok1: True
          refine O_y hs (Y_move rfl ?_)
          refine O_yy 38 hs rfl rfl (Y_move rfl ?_)
          cases ok2
          · -- ok2: False
            refine O_y hs (Y_pickT rfl rfl ?_)
            refine O_nil (T_sub [(0, _), (1, _), (6, _), (7, _), (9, _), (40, _)] ⟨rfl, rfl, rfl, rfl, rfl, rfl, trivial⟩ ?_)
            refine T_condF rfl (T_skip ?_)
            refine T_seq (T_seq (T_region rfl ?_))
            refine O_y hs (Y_move rfl ?_)
            refine O_y hs (Y_idxB hr 0 Tryz.underlying22 Tryz.sizeOf5 rfl rfl rfl (by simp) fun p51 hp51 => ?_)
            refine O_y hs (Y_ldG Tryz.isAgg5 rfl (hp51) ?_)
            refine O_y hs (Y_cmpT rfl rfl rfl (h17) ?_)
            refine O_y hs (Y_move rfl ?_)
            refine O_yy 54 hs rfl rfl (Y_move rfl ?_)
            refine O_yy 54 hs rfl rfl (Y_not rfl ?_)
            refine O_y hs (Y_pickT rfl rfl ?_)
            refine O_nil (T_sub [(0, _), (1, _), (6, _), (57, _)] ⟨rfl, rfl, rfl, rfl, trivial⟩ ?_)
            refine T_condF rfl (T_skip ?_)
            refine T_seq (T_region rfl ?_)
            refine O_y hs (Y_move rfl ?_)
            refine O_y hs (Y_move rfl ?_)
            refine O_y hs (Y_idxB hr 0 Tryz.underlying22 Tryz.sizeOf5 rfl rfl rfl (by simp) fun p60 hp60 => ?_)
            refine O_y hs (Y_ldG Tryz.isAgg5 rfl (hp60) ?_)
            refine O_s (S_lit hs Tryz.underlying22 Tryz.sizeOf5 Tryz.zeroValue5 rfl rfl (by decide) (by decide) rfl (cs := [_]) rfl rfl fun v5 _ hs _ => ?_)
            obtain ⟨_, hG62, hl62, hs⟩ := hs.fixRow noM
            replace hr := hr.mono hG62
            refine O_s (S_append hs Tryz.underlying22 TI5 rfl (by decide) rfl rfl (hl62) (one1 rfl) (by simp only [List.length_cons] at hn; omega) (by simp only [List.length_cons] at hn; omega) fun v6 _ hs => ?_)
            refine O_y hs (Y_assign rfl ?_)
            refine O_nil (T_sub [(0, _), (1, _), (6, _)] ⟨rfl, rfl, rfl, trivial⟩ ?_)
            refine T_region rfl ?_
            refine O_y hs (Y_move rfl ?_)
            refine O_y hs (Y_sliceB hr 1 (a :: x1 :: x2 :: tl).length Tryz.underlying22 Tryz.sizeOf5 rfl ⟨_, _, rfl, rfl⟩ rfl (by simp) (by omega) fun s65 hs65 => ?_)
            obtain ⟨A65, c65, rfl, _⟩ := id hs65
            refine O_y hs (Y_assign rfl ?_)
            refine O_nil ⟨_, ?_, [(0, _), (1, _), (6, _)], ⟨rfl, rfl, rfl, trivial⟩, ⟨_, out ++ [a], _, _, _, _, by rw [hp, perc_none_t (a := a) h17 (pairF_2 hok2), Option.map_map, tk1 a (x1 :: x2 :: tl)]; simp [Function.comp_def], hs65, by rw [tk1 a (x1 :: x2 :: tl)]; simp only [List.length_append, List.length_cons, List.length_nil] at hn ⊢; omega, rfl, rfl, by simpa [byteV, u8_16] using hs⟩⟩
            first | (rw [tk3]; simp only [List.length_cons]; omega) | (rw [tk1]; simp only [List.length_cons]; omega)
          · -- ok2: True
            refine O_y hs (Y_pickT rfl rfl ?_)
            refine O_nil (T_sub [(0, _), (1, _), (6, _), (7, _), (9, _), (40, _)] ⟨rfl, rfl, rfl, rfl, rfl, rfl, trivial⟩ ?_)
            refine T_condT rfl (T_seq (T_region rfl ?_))
            refine O_y hs (Y_move rfl ?_)
            refine O_y hs (Y_move rfl ?_)
            refine O_y hs (Y_mulW rfl rfl ?_)
            refine O_y hs (Y_move rfl ?_)
            refine O_y hs (Y_addW rfl rfl ?_)
            refine O_s (S_lit hs Tryz.underlying22 Tryz.sizeOf5 Tryz.zeroValue5 rfl rfl (by decide) (by decide) rfl (cs := [_]) rfl rfl fun v7 _ hs _ => ?_)
            obtain ⟨_, hG46, hl46, hs⟩ := hs.fixRow noM
            replace hr := hr.mono hG46
            refine O_s (S_append hs Tryz.underlying22 TI5 rfl (by decide) rfl rfl (hl46) (one1 rfl) (by simp only [List.length_cons] at hn; omega) (by simp only [List.length_cons] at hn; omega) fun v8 _ hs => ?_)
            refine O_y hs (Y_assign rfl ?_)
            refine O_nil (T_sub [(0, _), (1, _), (6, _)] ⟨rfl, rfl, rfl, trivial⟩ ?_)
            refine T_seq (T_region rfl ?_)
            refine O_y hs (Y_move rfl ?_)
            refine O_y hs (Y_sliceB hr 3 (a :: x1 :: x2 :: tl).length Tryz.underlying22 Tryz.sizeOf5 rfl ⟨_, _, rfl, rfl⟩ rfl (by simp) (by omega) fun s49 hs49 => ?_)
            obtain ⟨A49, c49, rfl, _⟩ := id hs49
            refine O_y hs (Y_assign rfl ?_)
            refine O_nil (T_sub [(0, _), (1, _), (6, _)] ⟨rfl, rfl, rfl, trivial⟩ ?_)
            refine T_exit ?_
            refine ⟨_, ?_, [(0, _), (1, _), (6, _)], ⟨rfl, rfl, rfl, trivial⟩, ⟨_, out ++ [16 * (hexF x1).getD 0 + (hexF x2).getD 0], _, _, _, _, by rw [hp, perc_pair (a := a) h17 hok1 hok2, Option.map_map, tk3 a x1 x2 tl]; simp [Function.comp_def], hs49, by rw [tk3 a x1 x2 tl]; simp only [List.length_append, List.length_cons, List.length_nil] at hn ⊢; omega, rfl, rfl, by simpa [byteV, u8_16] using hs⟩⟩
            first | (rw [tk3]; simp only [List.length_cons]; omega) | (rw [tk1]; simp only [List.length_cons]; omega)
      · -- h21: False
        dsimp only [cmpP] at h21
        refine O_y hs (Y_pickT rfl rfl ?_)
        refine O_nil (T_sub [(0, _), (1, _), (6, _), (22, _)] ⟨rfl, rfl, rfl, rfl, trivial⟩ ?_)
        refine T_condF rfl (T_skip ?_)
        refine T_seq (T_seq (T_region rfl ?_))
        refine O_y hs (Y_move rfl ?_)
        refine O_y hs (Y_idxB hr 0 Tryz.underlying22 Tryz.sizeOf5 rfl rfl rfl (by simp) fun p51 hp51 => ?_)
        refine O_y hs (Y_ldG Tryz.isAgg5 rfl (hp51) ?_)
        refine O_y hs (Y_cmpT rfl rfl rfl (h17) ?_)
        refine O_y hs (Y_move rfl ?_)
        refine O_yy 54 hs rfl rfl (Y_move rfl ?_)
        refine O_yy 54 hs rfl rfl (Y_not rfl ?_)
        refine O_y hs (Y_pickT rfl rfl ?_)
        refine O_nil (T_sub [(0, _), (1, _), (6, _), (57, _)] ⟨rfl, rfl, rfl, rfl, trivial⟩ ?_)
        refine T_condF rfl (T_skip ?_)
        refine T_seq (T_region rfl ?_)
        refine O_y hs (Y_move rfl ?_)
        refine O_y hs (Y_move rfl ?_)
        refine O_y hs (Y_idxB hr 0 Tryz.underlying22 Tryz.sizeOf5 rfl rfl rfl (by simp) fun p60 hp60 => ?_)
        refine O_y hs (Y_ldG Tryz.isAgg5 rfl (hp60) ?_)
        refine O_s (S_lit hs Tryz.underlying22 Tryz.sizeOf5 Tryz.zeroValue5 rfl rfl (by decide) (by decide) rfl (cs := [_]) rfl rfl fun v9 _ hs _ => ?_)
        obtain ⟨_, hG62, hl62, hs⟩ := hs.fixRow noM
        replace hr := hr.mono hG62
        refine O_s (S_append hs Tryz.underlying22 TI5 rfl (by decide) rfl rfl (hl62) (one1 rfl) (by simp only [List.length_cons] at hn; omega) (by simp only [List.length_cons] at hn; omega) fun v10 _ hs => ?_)
        refine O_y hs (Y_assign rfl ?_)
        refine O_nil (T_sub [(0, _), (1, _), (6, _)] ⟨rfl, rfl, rfl, trivial⟩ ?_)
        refine T_region rfl ?_
        refine O_y hs (Y_move rfl ?_)
        refine O_y hs (Y_sliceB hr 1 (a :: t).length Tryz.underlying22 Tryz.sizeOf5 rfl ⟨_, _, rfl, rfl⟩ rfl (by simp) (by omega) fun s65 hs65 => ?_)
        obtain ⟨A65, c65, rfl, _⟩ := id hs65
        refine O_y hs (Y_assign rfl ?_)
        refine O_nil ⟨_, ?_, [(0, _), (1, _), (6, _)], ⟨rfl, rfl, rfl, trivial⟩, ⟨_, out ++ [a], _, _, _, _, by rw [hp, perc_none_t (a := a) h17 (pairF_short (by simp only [List.length_cons] at h21; omega)), Option.map_map, tk1 a t]; simp [Function.comp_def], hs65, by rw [tk1 a t]; simp only [List.length_append, List.length_cons, List.length_nil] at hn ⊢; omega, rfl, rfl, by simpa [byteV, u8_16] using hs⟩⟩
        first | (rw [tk3]; simp only [List.length_cons]; omega) | (rw [tk1]; simp only [List.length_cons]; omega)
    · -- h17: False
      dsimp only [cmpP] at h17
      refine O_y hs (Y_move rfl ?_)
      refine O_no 18 rfl rfl ?_
      refine O_no 18 rfl rfl ?_
      refine O_no 18 rfl rfl ?_
      refine O_y hs (Y_pickF rfl rfl ?_)
      refine O_nil (T_sub [(0, _), (1, _), (6, _), (22, _)] ⟨rfl, rfl, rfl, rfl, trivial⟩ ?_)
      refine T_condF rfl (T_skip ?_)
      refine T_seq (T_seq (T_region rfl ?_))
      refine O_y hs (Y_move rfl ?_)
      refine O_y hs (Y_idxB hr 0 Tryz.underlying22 Tryz.sizeOf5 rfl rfl rfl (by simp) fun p51 hp51 => ?_)
      refine O_y hs (Y_ldG Tryz.isAgg5 rfl (hp51) ?_)
      refine O_y hs (Y_cmpF rfl rfl rfl (h17) ?_)
      refine O_y hs (Y_move rfl ?_)
      refine O_no 54 rfl rfl ?_
      refine O_no 54 rfl rfl ?_
      refine O_y hs (Y_pickF rfl rfl ?_)
      refine O_nil (T_sub [(0, _), (1, _), (6, _), (57, _)] ⟨rfl, rfl, rfl, rfl, trivial⟩ ?_)
      refine T_condF rfl (T_skip ?_)
      refine T_seq (T_region rfl ?_)
      refine O_y hs (Y_move rfl ?_)
      refine O_y hs (Y_move rfl ?_)
      refine O_y hs (Y_idxB hr 0 Tryz.underlying22 Tryz.sizeOf5 rfl rfl rfl (by simp) fun p60 hp60 => ?_)
      refine O_y hs (Y_ldG Tryz.isAgg5 rfl (hp60) ?_)
      refine O_s (S_lit hs Tryz.underlying22 Tryz.sizeOf5 Tryz.zeroValue5 rfl rfl (by decide) (by decide) rfl (cs := [_]) rfl rfl fun v11 _ hs _ => ?_)
      obtain ⟨_, hG62, hl62, hs⟩ := hs.fixRow noM
      replace hr := hr.mono hG62
      refine O_s (S_append hs Tryz.underlying22 TI5 rfl (by decide) rfl rfl (hl62) (one1 rfl) (by simp only [List.length_cons] at hn; omega) (by simp only [List.length_cons] at hn; omega) fun v12 _ hs => ?_)
      refine O_y hs (Y_assign rfl ?_)
      refine O_nil (T_sub [(0, _), (1, _), (6, _)] ⟨rfl, rfl, rfl, trivial⟩ ?_)
      refine T_region rfl ?_
      refine O_y hs (Y_move rfl ?_)
      refine O_y hs (Y_sliceB hr 1 (a :: t).length Tryz.underlying22 Tryz.sizeOf5 rfl ⟨_, _, rfl, rfl⟩ rfl (by simp) (by omega) fun s65 hs65 => ?_)
      obtain ⟨A65, c65, rfl, _⟩ := id hs65
      refine O_y hs (Y_assign rfl ?_)
      refine O_nil ⟨_, ?_, [(0, _), (1, _), (6, _)], ⟨rfl, rfl, rfl, trivial⟩, ⟨_, out ++ [a], _, _, _, _, by rw [hp, perc_other (a := a) h17, Option.map_map, tk1 a t]; simp [Function.comp_def], hs65, by rw [tk1 a t]; simp only [List.length_append, List.length_cons, List.length_nil] at hn ⊢; omega, rfl, rfl, by simpa [byteV, u8_16] using hs⟩⟩
      first | (rw [tk3]; simp only [List.length_cons]; omega) | (rw [tk1]; simp only [List.length_cons]; omega)
  · -- h13: False
    dsimp only [cmpP] at h13
    refine O_nil (T_sub [(0, _), (1, _), (6, _), (13, _)] ⟨rfl, rfl, rfl, rfl, trivial⟩ ?_)
    refine T_condF rfl (T_exit ?_)
    refine T_seq (T_region rfl ?_)
    refine O_y hs (Y_move rfl ?_)
    refine O_y hs (Y_assign rfl ?_)
    refine O_y hs (Y_assign rfl ?_)
    refine O_nil (T_sub [(4, _), (5, _)] ⟨rfl, rfl, trivial⟩ ?_)
    refine T_ret ?_
    refine Rt_fin (vs := [_, _]) Tryz.results60 rfl ⟨rfl, rfl, trivial⟩ ?_
    try dsimp only [tup]
    obtain rfl : rest = [] := List.length_eq_zero_iff.1 (by omega)
    obtain ⟨G', hG, hf, hs3⟩ := hs.fixRow noM
    have hp2 : percF true 0 b = some out := by rw [hp]; simp [percF]
    rw [hp2]
    exact ⟨G', [], hs3, rfl, _, rfl, hf⟩

set_option maxHeartbeats 400000 in
set_option maxRecDepth 10000 in
theorem dec_f {G : Ghost} {v : Value} {b : List UInt8} (hb : Bytes G v b) (hl : b.length ≤ 1000000000) :
    FnOk Tryz.prog 60 [v, .bool false] G [] fun r G' H' => H' = [] ∧ ∃ u, r = .tuple #[u, .bool (percF false 0 b).isSome] ∧ Bytes G' u ((percF false 0 b).getD []) := by
  obtain ⟨A, cap, rfl, _⟩ := id hb
  refine FnOk.of_T [(0, _), (1, _)] Tryz.func60 rfl Tryz.ntmps60 (by simp) rfl fun w0 hs => ?_
  refine T_seq (T_region rfl ?_)
  refine O_y hs (Y_assign rfl ?_)
  refine O_y hs (Y_assign rfl ?_)
  refine O_nil (T_sub [(0, _), (1, _)] ⟨rfl, rfl, trivial⟩ ?_)
  refine T_seq (T_region rfl ?_)
  refine O_y hs (Y_assign rfl ?_)
  refine O_nil (T_sub [(0, _), (1, _), (6, _)] ⟨rfl, rfl, rfl, trivial⟩ ?_)
  have hs := hs.nilRow 5 1
  refine T_seq (T_block (T_loop (fun m E w => ∃ (rest out : List UInt8) (A : Option Addr) (cap : Nat) (v6 : Value) (G' : Ghost), percF false 0 b = (percF false 0 rest).map (out ++ ·) ∧ Bytes G' (.slice A rest.length cap) rest ∧ out.length + rest.length ≤ b.length ∧ m = rest.length ∧ E = ⟨[], [(0, (.slice A rest.length cap)), (1, .bool false), (6, v6)]⟩ ∧ St ⟨w0, G, feet []⟩ G' [.row 5 1 v6 out.length (out.map byteV)] w) (L := [(0, _), (1, _), (6, _)]) ⟨rfl, rfl, rfl, trivial⟩ (⟨b, [], _, _, _, _, by simp, hb, by simp, rfl, rfl, hs⟩) fun m E w hI => ?_))
  obtain ⟨rest, out, A, cap, v6, G', hp, hr, hn, rfl, rfl, hs⟩ := hI
  refine T_seq (T_seq (T_region rfl ?_))
  refine O_y hs (Y_move rfl ?_)
  refine O_y hs (Y_len Tryz.underlying22 rfl ?_)
  refine O_y hs (Y_cmpS rfl rfl rfl (fun h13 => ?_) (fun h13 => ?_))
  · -- h13: True
    dsimp only [cmpP] at h13
    refine O_nil (T_sub [(0, _), (1, _), (6, _), (13, _)] ⟨rfl, rfl, rfl, rfl, trivial⟩ ?_)
    refine T_condT rfl (T_skip ?_)
    obtain ⟨a, t, rfl⟩ := cons_of (show 0 < rest.length by omega)
    refine T_block (T_seq (T_seq (T_region rfl ?_)))
    refine O_y hs (Y_move rfl ?_)
    refine O_y hs (Y_idxB hr 0 Tryz.underlying22 Tryz.sizeOf5 rfl rfl rfl (by simp) fun p15 hp15 => ?_)
    refine O_y hs (Y_ldG Tryz.isAgg5 rfl (hp15) ?_)
    refine O_y hs (Y_cmpS rfl rfl rfl (fun h17 => ?_) (fun h17 => ?_))
    · -- h17: True
      dsimp only [cmpP] at h17
      refine O_y hs (Y_move rfl ?_)
      refine O_yy 18 hs rfl rfl (Y_move rfl ?_)
      refine O_yy 18 hs rfl rfl (Y_len Tryz.underlying22 rfl ?_)
      refine O_yy 18 hs rfl rfl (Y_cmpS rfl rfl rfl (fun h21 => ?_) (fun h21 => ?_))
      · -- h21: True
        dsimp only [cmpP] at h21
        refine O_y hs (Y_pickT rfl rfl ?_)
        refine O_nil (T_sub [(0, _), (1, _), (6, _), (22, _)] ⟨rfl, rfl, rfl, rfl, trivial⟩ ?_)
        obtain ⟨x1, x2, tl, rfl⟩ := cons2_of (show 2 ≤ t.length by simp only [List.length_cons] at h21; omega)
        obtain ⟨ok1, hok1⟩ : ∃ q, (hexF x1).isSome = q := ⟨_, rfl⟩
        obtain ⟨ok2, hok2⟩ : ∃ q, (hexF x2).isSome = q := ⟨_, rfl⟩
        refine T_condT rfl (T_seq (T_region rfl ?_))
        refine O_y hs (Y_move rfl ?_)
        refine O_y hs (Y_idxB hr 1 Tryz.underlying22 Tryz.sizeOf5 rfl rfl rfl (by simp) fun p25 hp25 => ?_)
        refine O_y hs (Y_ldG Tryz.isAgg5 rfl (hp25) ?_)
        refine O_s (S_call (H1 := []) hs rfl Tryz.func73 rfl (by kernel_rfl) (hex_eq hok1) fun v1 G' H' _ hR hG27 hs => ?_)
        obtain ⟨rfl, rfl⟩ := hR
        replace hs : St _ _ [_] _ := hs
        replace hr := hr.mono hG27
        refine O_y hs (Y_move rfl ?_)
        refine O_y hs (Y_extract rfl rfl ?_)
        refine O_y hs (Y_extract rfl rfl ?_)
        refine O_y hs (Y_assign rfl ?_)
        refine O_y hs (Y_assign rfl ?_)
        refine O_nil (T_sub [(0, _), (1, _), (6, _), (7, _), (8, _)] ⟨rfl, rfl, rfl, rfl, rfl, trivial⟩ ?_)
        refine T_seq (T_region rfl ?_)
        refine O_y hs (Y_move rfl ?_)
        refine O_y hs (Y_idxB hr 2 Tryz.underlying22 Tryz.sizeOf5 rfl rfl rfl (by simp) fun p32 hp32 => ?_)
        refine O_y hs (Y_ldG Tryz.isAgg5 rfl (hp32) ?_)
        refine O_s (S_call (H1 := []) hs rfl Tryz.func73 rfl (by kernel_rfl) (hex_eq hok2) fun v2 G' H' _ hR hG34 hs => ?_)
        obtain ⟨rfl, rfl⟩ := hR
        replace hs : St _ _ [_] _ := hs
        replace hr := hr.mono hG34
        refine O_y hs (Y_move rfl ?_)
        refine O_y hs (Y_extract rfl rfl ?_)
        refine O_y hs (Y_extract rfl rfl ?_)
        refine O_y hs (Y_assign rfl ?_)
        refine O_y hs (Y_assign rfl ?_)
        refine O_nil (T_sub [(0, _), (1, _), (6, _), (7, _), (8, _), (9, _), (10, _)] ⟨rfl, rfl, rfl, rfl, rfl, rfl, rfl, trivial⟩ ?_)
        refine T_seq (T_region rfl ?_)
        refine O_y hs (Y_move rfl ?_)
        cases ok1
        · -- ok1: False
          refine O_y hs (Y_move rfl ?_)
          refine O_no 38 rfl rfl ?_
          refine O_y hs (Y_pickF rfl rfl ?_)
          refine O_nil (T_sub [(0, _), (1, _), (6, _), (7, _), (9, _), (40, _)] ⟨rfl, rfl, rfl, rfl, rfl, rfl, trivial⟩ ?_)
          refine T_condF rfl (T_skip ?_)
          refine T_seq (T_seq (T_region rfl ?_))
          refine O_y hs (Y_move rfl ?_)
          refine O_y hs (Y_idxB hr 0 Tryz.underlying22 Tryz.sizeOf5 rfl rfl rfl (by simp) fun p51 hp51 => ?_)
          refine O_y hs (Y_ldG Tryz.isAgg5 rfl (hp51) ?_)
          refine O_y hs (Y_cmpT rfl rfl rfl (h17) ?_)
          refine O_y hs (Y_move rfl ?_)
          refine O_yy 54 hs rfl rfl (Y_move rfl ?_)
          refine O_yy 54 hs rfl rfl (Y_not rfl ?_)
          refine O_y hs (Y_pickT rfl rfl ?_)
          refine O_nil (T_sub [(0, _), (1, _), (6, _), (57, _)] ⟨rfl, rfl, rfl, rfl, trivial⟩ ?_)
          refine T_condT rfl (T_seq (T_region rfl ?_))
          refine O_y hs (Y_assign rfl ?_)
          refine O_y hs (Y_assign rfl ?_)
          refine O_nil (T_sub [(4, _), (5, _)] ⟨rfl, rfl, trivial⟩ ?_)
          refine T_ret ?_
          refine Rt_fin (vs := [_, _]) Tryz.results60 rfl ⟨rfl, rfl, trivial⟩ ?_
          try dsimp only [tup]
          have h0 : percF false 0 (a :: x1 :: x2 :: tl) = none := perc_none_f (a := a) h17 (pairF_1 hok1)
          rw [hp, h0]
          exact ⟨_, [], hs.done, rfl, _, rfl, Sl.nil _ _⟩
        · -- ok1: True
          refine O_y hs (Y_move rfl ?_)
          refine O_yy 38 hs rfl rfl (Y_move rfl ?_)
          cases ok2
          · -- ok2: False
            refine O_y hs (Y_pickT rfl rfl ?_)
            refine O_nil (T_sub [(0, _), (1, _), (6, _), (7, _), (9, _), (40, _)] ⟨rfl, rfl, rfl, rfl, rfl, rfl, trivial⟩ ?_)
            refine T_condF rfl (T_skip ?_)
            refine T_seq (T_seq (T_region rfl ?_))
            refine O_y hs (Y_move rfl ?_)
            refine O_y hs (Y_idxB hr 0 Tryz.underlying22 Tryz.sizeOf5 rfl rfl rfl (by simp) fun p51 hp51 => ?_)
            refine O_y hs (Y_ldG Tryz.isAgg5 rfl (hp51) ?_)
            refine O_y hs (Y_cmpT rfl rfl rfl (h17) ?_)
            refine O_y hs (Y_move rfl ?_)
            refine O_yy 54 hs rfl rfl (Y_move rfl ?_)
            refine O_yy 54 hs rfl rfl (Y_not rfl ?_)
            refine O_y hs (Y_pickT rfl rfl ?_)
            refine O_nil (T_sub [(0, _), (1, _), (6, _), (57, _)] ⟨rfl, rfl, rfl, rfl, trivial⟩ ?_)
            refine T_condT rfl (T_seq (T_region rfl ?_))
            refine O_y hs (Y_assign rfl ?_)
            refine O_y hs (Y_assign rfl ?_)
            refine O_nil (T_sub [(4, _), (5, _)] ⟨rfl, rfl, trivial⟩ ?_)
            refine T_ret ?_
            refine Rt_fin (vs := [_, _]) Tryz.results60 rfl ⟨rfl, rfl, trivial⟩ ?_
            try dsimp only [tup]
            have h0 : percF false 0 (a :: x1 :: x2 :: tl) = none := perc_none_f (a := a) h17 (pairF_2 hok2)
            rw [hp, h0]
            exact ⟨_, [], hs.done, rfl, _, rfl, Sl.nil _ _⟩
          · -- ok2: True
            refine O_y hs (Y_pickT rfl rfl ?_)
            refine O_nil (T_sub [(0, _), (1, _), (6, _), (7, _), (9, _), (40, _)] ⟨rfl, rfl, rfl, rfl, rfl, rfl, trivial⟩ ?_)
            refine T_condT rfl (T_seq (T_region rfl ?_))
            refine O_y hs (Y_move rfl ?_)
            refine O_y hs (Y_move rfl ?_)
            refine O_y hs (Y_mulW rfl rfl ?_)
            refine O_y hs (Y_move rfl ?_)
            refine O_y hs (Y_addW rfl rfl ?_)
            refine O_s (S_lit hs Tryz.underlying22 Tryz.sizeOf5 Tryz.zeroValue5 rfl rfl (by decide) (by decide) rfl (cs := [_]) rfl rfl fun v3 _ hs _ => ?_)
            obtain ⟨_, hG46, hl46, hs⟩ := hs.fixRow noM
            replace hr := hr.mono hG46
            refine O_s (S_append hs Tryz.underlying22 TI5 rfl (by decide) rfl rfl (hl46) (one1 rfl) (by simp only [List.length_cons] at hn; omega) (by simp only [List.length_cons] at hn; omega) fun v4 _ hs => ?_)
            refine O_y hs (Y_assign rfl ?_)
            refine O_nil (T_sub [(0, _), (1, _), (6, _)] ⟨rfl, rfl, rfl, trivial⟩ ?_)
            refine T_seq (T_region rfl ?_)
            refine O_y hs (Y_move rfl ?_)
            refine O_y hs (Y_sliceB hr 3 (a :: x1 :: x2 :: tl).length Tryz.underlying22 Tryz.sizeOf5 rfl ⟨_, _, rfl, rfl⟩ rfl (by simp) (by omega) fun s49 hs49 => ?_)
            obtain ⟨A49, c49, rfl, _⟩ := id hs49
            refine O_y hs (Y_assign rfl ?_)
            refine O_nil (T_sub [(0, _), (1, _), (6, _)] ⟨rfl, rfl, rfl, trivial⟩ ?_)
            refine T_exit ?_
            refine ⟨_, ?_, [(0, _), (1, _), (6, _)], ⟨rfl, rfl, rfl, trivial⟩, ⟨_, out ++ [16 * (hexF x1).getD 0 + (hexF x2).getD 0], _, _, _, _, by rw [hp, perc_pair (a := a) h17 hok1 hok2, Option.map_map, tk3 a x1 x2 tl]; simp [Function.comp_def], hs49, by rw [tk3 a x1 x2 tl]; simp only [List.length_append, List.length_cons, List.length_nil] at hn ⊢; omega, rfl, rfl, by simpa [byteV, u8_16] using hs⟩⟩
            first | (rw [tk3]; simp only [List.length_cons]; omega) | (rw [tk1]; simp only [List.length_cons]; omega)
      · -- h21: False
        dsimp only [cmpP] at h21
        refine O_y hs (Y_pickT rfl rfl ?_)
        refine O_nil (T_sub [(0, _), (1, _), (6, _), (22, _)] ⟨rfl, rfl, rfl, rfl, trivial⟩ ?_)
        refine T_condF rfl (T_skip ?_)
        refine T_seq (T_seq (T_region rfl ?_))
        refine O_y hs (Y_move rfl ?_)
        refine O_y hs (Y_idxB hr 0 Tryz.underlying22 Tryz.sizeOf5 rfl rfl rfl (by simp) fun p51 hp51 => ?_)
        refine O_y hs (Y_ldG Tryz.isAgg5 rfl (hp51) ?_)
        refine O_y hs (Y_cmpT rfl rfl rfl (h17) ?_)
        refine O_y hs (Y_move rfl ?_)
        refine O_yy 54 hs rfl rfl (Y_move rfl ?_)
        refine O_yy 54 hs rfl rfl (Y_not rfl ?_)
        refine O_y hs (Y_pickT rfl rfl ?_)
        refine O_nil (T_sub [(0, _), (1, _), (6, _), (57, _)] ⟨rfl, rfl, rfl, rfl, trivial⟩ ?_)
        refine T_condT rfl (T_seq (T_region rfl ?_))
        refine O_y hs (Y_assign rfl ?_)
        refine O_y hs (Y_assign rfl ?_)
        refine O_nil (T_sub [(4, _), (5, _)] ⟨rfl, rfl, trivial⟩ ?_)
        refine T_ret ?_
        refine Rt_fin (vs := [_, _]) Tryz.results60 rfl ⟨rfl, rfl, trivial⟩ ?_
        try dsimp only [tup]
        have h0 : percF false 0 (a :: t) = none := perc_none_f (a := a) h17 (pairF_short (by simp only [List.length_cons] at h21; omega))
        rw [hp, h0]
        exact ⟨_, [], hs.done, rfl, _, rfl, Sl.nil _ _⟩
    · -- h17: False
      dsimp only [cmpP] at h17
      refine O_y hs (Y_move rfl ?_)
      refine O_no 18 rfl rfl ?_
      refine O_no 18 rfl rfl ?_
      refine O_no 18 rfl rfl ?_
      refine O_y hs (Y_pickF rfl rfl ?_)
      refine O_nil (T_sub [(0, _), (1, _), (6, _), (22, _)] ⟨rfl, rfl, rfl, rfl, trivial⟩ ?_)
      refine T_condF rfl (T_skip ?_)
      refine T_seq (T_seq (T_region rfl ?_))
      refine O_y hs (Y_move rfl ?_)
      refine O_y hs (Y_idxB hr 0 Tryz.underlying22 Tryz.sizeOf5 rfl rfl rfl (by simp) fun p51 hp51 => ?_)
      refine O_y hs (Y_ldG Tryz.isAgg5 rfl (hp51) ?_)
      refine O_y hs (Y_cmpF rfl rfl rfl (h17) ?_)
      refine O_y hs (Y_move rfl ?_)
      refine O_no 54 rfl rfl ?_
      refine O_no 54 rfl rfl ?_
      refine O_y hs (Y_pickF rfl rfl ?_)
      refine O_nil (T_sub [(0, _), (1, _), (6, _), (57, _)] ⟨rfl, rfl, rfl, rfl, trivial⟩ ?_)
      refine T_condF rfl (T_skip ?_)
      refine T_seq (T_region rfl ?_)
      refine O_y hs (Y_move rfl ?_)
      refine O_y hs (Y_move rfl ?_)
      refine O_y hs (Y_idxB hr 0 Tryz.underlying22 Tryz.sizeOf5 rfl rfl rfl (by simp) fun p60 hp60 => ?_)
      refine O_y hs (Y_ldG Tryz.isAgg5 rfl (hp60) ?_)
      refine O_s (S_lit hs Tryz.underlying22 Tryz.sizeOf5 Tryz.zeroValue5 rfl rfl (by decide) (by decide) rfl (cs := [_]) rfl rfl fun v5 _ hs _ => ?_)
      obtain ⟨_, hG62, hl62, hs⟩ := hs.fixRow noM
      replace hr := hr.mono hG62
      refine O_s (S_append hs Tryz.underlying22 TI5 rfl (by decide) rfl rfl (hl62) (one1 rfl) (by simp only [List.length_cons] at hn; omega) (by simp only [List.length_cons] at hn; omega) fun v6 _ hs => ?_)
      refine O_y hs (Y_assign rfl ?_)
      refine O_nil (T_sub [(0, _), (1, _), (6, _)] ⟨rfl, rfl, rfl, trivial⟩ ?_)
      refine T_region rfl ?_
      refine O_y hs (Y_move rfl ?_)
      refine O_y hs (Y_sliceB hr 1 (a :: t).length Tryz.underlying22 Tryz.sizeOf5 rfl ⟨_, _, rfl, rfl⟩ rfl (by simp) (by omega) fun s65 hs65 => ?_)
      obtain ⟨A65, c65, rfl, _⟩ := id hs65
      refine O_y hs (Y_assign rfl ?_)
      refine O_nil ⟨_, ?_, [(0, _), (1, _), (6, _)], ⟨rfl, rfl, rfl, trivial⟩, ⟨_, out ++ [a], _, _, _, _, by rw [hp, perc_other (a := a) h17, Option.map_map, tk1 a t]; simp [Function.comp_def], hs65, by rw [tk1 a t]; simp only [List.length_append, List.length_cons, List.length_nil] at hn ⊢; omega, rfl, rfl, by simpa [byteV, u8_16] using hs⟩⟩
      first | (rw [tk3]; simp only [List.length_cons]; omega) | (rw [tk1]; simp only [List.length_cons]; omega)
  · -- h13: False
    dsimp only [cmpP] at h13
    refine O_nil (T_sub [(0, _), (1, _), (6, _), (13, _)] ⟨rfl, rfl, rfl, rfl, trivial⟩ ?_)
    refine T_condF rfl (T_exit ?_)
    refine T_seq (T_region rfl ?_)
    refine O_y hs (Y_move rfl ?_)
    refine O_y hs (Y_assign rfl ?_)
    refine O_y hs (Y_assign rfl ?_)
    refine O_nil (T_sub [(4, _), (5, _)] ⟨rfl, rfl, trivial⟩ ?_)
    refine T_ret ?_
    refine Rt_fin (vs := [_, _]) Tryz.results60 rfl ⟨rfl, rfl, trivial⟩ ?_
    try dsimp only [tup]
    obtain rfl : rest = [] := List.length_eq_zero_iff.1 (by omega)
    obtain ⟨G', hG, hf, hs3⟩ := hs.fixRow noM
    have hp2 : percF false 0 b = some out := by rw [hp]; simp [percF]
    rw [hp2]
    exact ⟨G', [], hs3, rfl, _, rfl, hf⟩

set_option maxHeartbeats 400000 in
set_option maxRecDepth 10000 in
theorem occ_ok {vb vo : Value} {G : Ghost} {b old : List UInt8} (ho : Bytes G vo old) (hb : Bytes G vb b) :
    FnOk Tryz.prog 83 [vo, vb] G [] fun r G' H' => H' = [] ∧ ∃ bb bo, r = .func (.func 96) #[] #[.pointer (some ⟨bb, 0, none⟩), .pointer (some ⟨bo, 0, none⟩)] ∧ Cell G' bb vb ∧ Cell G' bo vo := by
  obtain ⟨A, cap, rfl, hb'⟩ := id hb
  obtain ⟨A1, c1, rfl, ho'⟩ := id ho
  refine FnOk.of_T [(0, _), (1, _)] Tryz.func83 rfl Tryz.ntmps83 (by simp) rfl fun w0 hs => ?_
  refine T_seq (T_region rfl ?_)
  refine O_s (S_box hs rfl (cs := [_]) rfl fun b2 _ hs => ?_)
  refine O_s (S_box hs rfl (cs := [_]) rfl fun b3 _ hs => ?_)
  refine O_y hs (Y_assign rfl ?_)
  refine O_nil (T_sub [(2, _), (3, _)] ⟨rfl, rfl, trivial⟩ ?_)
  refine T_seq (T_region rfl ?_)
  refine O_y hs (Y_makeFunc (vs := [_, _]) rfl ?_)
  refine O_y hs (Y_assign rfl ?_)
  refine O_nil (T_sub [(4, _)] ⟨rfl, trivial⟩ ?_)
  refine T_ret ?_
  refine Rt_fin (vs := [_]) Tryz.results83 rfl ⟨rfl, trivial⟩ ?_
  try dsimp only [tup]
  obtain ⟨G1, hG1, hc1, hs⟩ := hs.fixBlk (fun k _ => noMb k)
  obtain ⟨G2, hG2, hc2, hs⟩ := hs.fixBlk (fun k _ => noMb k)
  exact ⟨G2, [], hs, rfl, b3, b2, rfl, Cell.mono hG2 (hc1 0 _ rfl), hc2 0 _ rfl⟩

set_option maxHeartbeats 400000 in
set_option maxRecDepth 10000 in
theorem occ1_ok {lp bb bo : Nat} {vb vo : Value} {G : Ghost} {b old : List UInt8} {H0 : List Res} {J : Nat → Ghost → List Res → Prop} {X : Ghost → List Res → Prop} (hbb : Cell G bb vb) (hb : Bytes G vb b) (hbo : Cell G bo vo) (ho : Bytes G vo old) (hne : old ≠ []) (hbl : b.length ≤ 1000000000) (hol : old.length ≤ 1000000000) (hm : ∃ m : Int, gcell G ⟨0, 0, none⟩ = some (.int .i64 m))
    (hY : ∀ p i G' H', p ≤ b.length → idxF old (b.drop p) = some i → G.le G' → J p G' H' → YieldOk Tryz.prog lp [.int .i64 ((p + i : Nat) : Int)] G' H' fun r G'' H'' => ∃ q, r = .bool q ∧ if q = true then J (p + i + old.length) G'' H'' else X G'' H'') (hJm : ∀ p G1 G2 H, Ghost.le G1 G2 → J p G1 H → J p G2 H) (hJ0 : J 0 G H0) :
    FnOk Tryz.prog 96 [.func (.yield lp) #[] #[], .pointer (some ⟨bb, 0, none⟩), .pointer (some ⟨bo, 0, none⟩)] G H0 fun _ G' H' => X G' H' ∨ ∃ p, p ≤ b.length ∧ idxF old (b.drop p) = none ∧ J p G' H' := by
  obtain ⟨A, cap, rfl, hb'⟩ := id hb
  obtain ⟨A1, c1, rfl, ho'⟩ := id ho
  obtain ⟨mx, hm⟩ := hm
  have hopos : 0 < old.length := List.length_pos_iff.2 hne
  refine FnOk.of_T [(0, _), (1, _), (2, _)] Tryz.func96 rfl Tryz.ntmps96 (by simp) rfl fun w0 hs => ?_
  have hbb0 := hbb
  have hb0 := hb
  have hbo0 := hbo
  have ho0 := ho
  refine T_seq (T_region rfl ?_)
  refine O_y hs (Y_assign rfl ?_)
  refine O_nil (T_sub [(0, _), (1, _), (2, _), (4, _)] ⟨rfl, rfl, rfl, rfl, trivial⟩ ?_)
  refine T_block (T_loop (fun m E w => ∃ (p : Nat) (G' : Ghost) (H' : List Res), p ≤ b.length ∧ J p G' H' ∧ m = b.length - p ∧ E = ⟨[], [(0, .func (.yield lp) #[] #[]), (1, .pointer (some ⟨bb, 0, none⟩)), (2, .pointer (some ⟨bo, 0, none⟩)), (4, .int .i64 (p : Int))]⟩ ∧ St ⟨w0, G, feet H0⟩ G' H' w) (L := [(0, _), (1, _), (2, _), (4, _)]) ⟨rfl, rfl, rfl, rfl, trivial⟩ (⟨0, _, _, by omega, hJ0, rfl, rfl, hs⟩) fun m E w hI => ?_)
  obtain ⟨p, G', H', hp, hJ, rfl, rfl, hs⟩ := hI
  have hbb := hbb0.mono hs.le
  have hb := hb0.mono hs.le
  have hbo := hbo0.mono hs.le
  have ho := ho0.mono hs.le
  refine T_block (T_seq (T_drawS [0, 1, 2, 3, 4, 5] hs (by kernel_rfl) ?_))
  replace hs := hs.drew
  refine A_take 0 rfl (by kernel_rfl) rfl hs (Y_ldG Tryz.isAgg22 rfl (hbb) ?_)
  refine A_take 1 rfl (by kernel_rfl) rfl hs (Y_move rfl ?_)
  refine A_take 2 rfl (by kernel_rfl) rfl hs (Y_sliceB hb p b.length Tryz.underlying22 Tryz.sizeOf5 rfl ⟨_, _, rfl, rfl⟩ rfl hp (by omega) fun s8 hs8 => ?_)
  obtain ⟨A8, c8, rfl, _⟩ := id hs8
  refine A_take 3 rfl (by kernel_rfl) rfl hs (Y_ldG Tryz.isAgg22 rfl (hbo) ?_)
  have hle := hs.le
  refine A_only 4 rfl (by kernel_rfl) rfl (S_call (H1 := []) (H := H') hs rfl Tryz.func97 rfl (by kernel_rfl) (index_ok hs8 ho hne (by rw [List.length_take, List.length_drop]; omega) hol ⟨mx, gcell_mono hs.le hm⟩) fun v1 G' H' _ hR hG10 hs => ?_)
  obtain ⟨rfl, rfl⟩ := hR
  replace hs : St _ _ H' _ := hs
  replace hbb := hbb.mono hG10
  replace hb := hb.mono hG10
  replace hbo := hbo.mono hG10
  replace ho := ho.mono hG10
  replace hs8 := hs8.mono hG10
  replace hJ := hJm _ _ _ _ hG10 hJ
  refine A_moreS hs hle hG10 (List.Sublist.refl _) ?_
  refine A_take 5 rfl (by kernel_rfl) rfl hs (Y_assign rfl ?_)
  refine A_done (by kernel_rfl) (T_sub [(0, _), (1, _), (2, _), (4, _), (5, _)] ⟨rfl, rfl, rfl, rfl, rfl, trivial⟩ ?_)
  refine T_seq (T_seq (T_region rfl ?_))
  refine O_y hs (Y_move rfl ?_)
  refine O_y hs (Y_cmpS rfl rfl rfl (fun h12 => ?_) (fun h12 => ?_))
  · -- h12: True
    dsimp only [cmpP] at h12
    rw [tk_drop] at h12
    have hN := idxI_none h12
    refine O_y hs (Y_move rfl ?_)
    refine O_no 13 rfl rfl ?_
    refine O_no 13 rfl rfl ?_
    refine O_no 13 rfl rfl ?_
    refine O_no 13 rfl rfl ?_
    refine O_no 13 rfl rfl ?_
    refine O_no 13 rfl rfl ?_
    refine O_y hs (Y_pickT rfl rfl ?_)
    refine O_nil (T_sub [(0, _), (1, _), (2, _), (4, _), (5, _), (20, _)] ⟨rfl, rfl, rfl, rfl, rfl, rfl, trivial⟩ ?_)
    refine T_condT rfl (T_ret ?_)
    refine Rt_fin (vs := []) Tryz.results96 rfl trivial ?_
    try dsimp only [tup]
    exact ⟨_, _, hs, Or.inr ⟨p, hp, hN, hJ⟩⟩
  · -- h12: False
    dsimp only [cmpP] at h12
    rw [tk_drop] at h12
    obtain ⟨i, hi, hI⟩ := idxI_some h12
    have hil := (repF_some old [] hne 1 _ i (by omega) hi).2
    rw [List.length_drop] at hil
    refine O_y hs (Y_move rfl ?_)
    refine O_yy 13 hs rfl rfl (Y_move rfl ?_)
    refine O_yy 13 hs rfl rfl (Y_move rfl ?_)
    refine O_yy 13 hs rfl rfl (Y_move rfl ?_)
    refine O_yy 13 hs rfl rfl (Y_add (c := ((p + i : Nat) : Int)) rfl rfl (by rw [tk_drop, hI]; omega) (by omega) ?_)
    refine O_yes 13 rfl rfl (S_yield (H1 := H') (H := []) (by rw [List.append_nil]; exact hs) rfl rfl (hY p i _ _ hp hi hs.le hJ) fun v G'' H'' w' hR hG18 hs => ?_)
    obtain ⟨q, rfl, hJ⟩ := hR
    rw [List.append_nil] at hs
    replace hbb := hbb.mono hG18
    replace hb := hb.mono hG18
    replace hbo := hbo.mono hG18
    replace ho := ho.mono hG18
    replace hs8 := hs8.mono hG18
    cases q
    · -- q: False
      refine O_yy 13 hs rfl rfl (Y_not rfl ?_)
      refine O_y hs (Y_pickF rfl rfl ?_)
      refine O_nil (T_sub [(0, _), (1, _), (2, _), (4, _), (5, _), (20, _)] ⟨rfl, rfl, rfl, rfl, rfl, rfl, trivial⟩ ?_)
      refine T_condT rfl (T_ret ?_)
      refine Rt_fin (vs := []) Tryz.results96 rfl trivial ?_
      try dsimp only [tup]
      exact ⟨_, _, hs, Or.inl (by simpa using hJ)⟩
    · -- q: True
      refine O_yy 13 hs rfl rfl (Y_not rfl ?_)
      refine O_y hs (Y_pickF rfl rfl ?_)
      refine O_nil (T_sub [(0, _), (1, _), (2, _), (4, _), (5, _), (20, _)] ⟨rfl, rfl, rfl, rfl, rfl, rfl, trivial⟩ ?_)
      refine T_condF rfl (T_skip ?_)
      refine T_region rfl ?_
      refine O_y hs (Y_move rfl ?_)
      refine O_y hs (Y_move rfl ?_)
      refine O_y hs (Y_ldG Tryz.isAgg22 rfl (hbo) ?_)
      refine O_y hs (Y_len Tryz.underlying22 rfl ?_)
      refine O_y hs (Y_add (c := ((i + old.length : Nat) : Int)) rfl rfl (by rw [tk_drop, hI]; omega) (by omega) ?_)
      refine O_y hs (Y_add (c := ((p + i + old.length : Nat) : Int)) rfl rfl (by omega) (by omega) ?_)
      refine O_y hs (Y_assign rfl ?_)
      refine O_nil ⟨_, ?_, [(0, _), (1, _), (2, _), (4, _)], ⟨rfl, rfl, rfl, rfl, trivial⟩, ⟨p + i + old.length, _, _, by omega, by simpa using hJ, rfl, rfl, hs⟩⟩
      omega

set_option maxHeartbeats 400000 in
set_option maxRecDepth 10000 in
theorem rep_ok {vb v : Value} {G : Ghost} {b : List UInt8} {o : OpV} {n : Nat} (ho : OpR G v o) (hb : Bytes G vb b) (hne : o.old ≠ []) (hol4 : o.old.length ≤ 4) (hon4 : o.new.length ≤ 4) (hbl : b.length ≤ 100000000) (hn : n ≤ 100000000) (hm : ∃ m : Int, gcell G ⟨0, 0, none⟩ = some (.int .i64 m)) :
    FnOk Tryz.prog 63 [v, vb, .int .i64 (n : Int)] G [] fun r G' H' => H' = [] ∧ Bytes G' r (repF o.old o.new n 0 b) := by
  obtain ⟨u1, u2, rfl, ho1, ho2⟩ := ho
  obtain ⟨A1, c1, rfl, _⟩ := id ho1
  obtain ⟨A2, c2, rfl, _⟩ := id ho2
  obtain ⟨A, cap, rfl, hb'⟩ := id hb
  obtain ⟨mx, hm⟩ := hm
  have hopos : 0 < o.old.length := List.length_pos_iff.2 hne
  refine FnOk.of_TM [(0, _), (1, _), (2, _)] Tryz.func63 rfl Tryz.ntmps63 (by simp) rfl fun w0 hs => ?_
  have hb0 := hb
  have ho10 := ho1
  have ho20 := ho2
  refine T_seq (T_region rfl ?_)
  refine O_s (S_box hs rfl (cs := [_, _, _]) rfl fun b3 _ hs => ?_)
  refine O_s (S_box hs rfl (cs := [_]) rfl fun b4 _ hs => ?_)
  refine O_s (S_box hs rfl (cs := [_]) rfl fun b5 _ hs => ?_)
  refine O_y hs (Y_assign rfl ?_)
  refine O_nil (T_sub [(3, _), (4, _), (5, _)] ⟨rfl, rfl, rfl, trivial⟩ ?_)
  refine T_seq (T_region rfl ?_)
  refine O_s (S_alloc hs Tryz.zeroValue22 (cs := [_]) rfl fun b7 _ hs => ?_)
  refine O_nil (T_sub [(3, _), (4, _), (5, _), (7, _)] ⟨rfl, rfl, rfl, rfl, trivial⟩ ?_)
  refine T_seq (T_region rfl ?_)
  refine O_s (S_alloc hs Tryz.zeroValue3 (cs := [_]) rfl fun b8 _ hs => ?_)
  refine O_n (S_st hs Tryz.sizeOf3 rfl rfl rfl (by simp) (cs' := [_]) rfl fun _ hs => ?_)
  refine O_nil (T_sub [(3, _), (4, _), (5, _), (7, _), (8, _)] ⟨rfl, rfl, rfl, rfl, rfl, trivial⟩ ?_)
  refine T_seq (T_seq (T_region rfl ?_))
  refine O_y hs (Y_fieldAddr FO24_1 rfl (m := 1) rfl ?_)
  refine O_y hs (Y_ld 4 Tryz.isAgg22 rfl rfl rfl ?_)
  refine O_y hs (Y_ld 3 Tryz.isAgg22 rfl rfl rfl ?_)
  refine O_s (S_call (H1 := []) hs rfl Tryz.func83 rfl (by kernel_rfl) (occ_ok ho1 hb) fun v1 G' H' _ hR hG13 hs => ?_)
  obtain ⟨rfl, bb, bo, rfl, hc1, hc2⟩ := hR
  replace hs : St _ _ [_, _, _, _, _] _ := hs
  replace hb := hb.mono hG13
  replace ho1 := ho1.mono hG13
  replace ho2 := ho2.mono hG13
  refine O_nil (T_sub [(3, _), (4, _), (5, _), (7, _), (8, _), (13, _)] ⟨rfl, rfl, rfl, rfl, rfl, rfl, trivial⟩ ?_)
  have hs := hs.nilRow 5 1
  have hs := hs.front 5 rfl (H' := [_, _, _, _, _, _]) rfl
  have hs := hs.front 5 rfl (H' := [_, _, _, _, _, _]) rfl
  have hs := hs.front 5 rfl (H' := [_, _, _, _, _, _]) rfl
  have hs := hs.front 5 rfl (H' := [_, _, _, _, _, _]) rfl
  have hs := hs.front 5 rfl (H' := [_, _, _, _, _, _]) rfl
  have hs := hs.front 5 rfl (H' := [_, _, _, _, _, _]) rfl
  refine T_block (T_rangeFuncX (H1 := [_, _, _, _, _, _]) (H := []) (R := fun j G' H2 => ∃ (v : Value) (out : List UInt8) (p : Nat) (n' : Nat), H2 = [.row 5 1 v out.length (out.map byteV), .blk b8 3 [.int .i64 (p : Int)], .blk b7 22 [v], .blk b5 3 [.int .i64 (n' : Int)], .blk b4 22 [.slice A b.length cap], .blk b3 24 [.int .i64 o.kind, .slice A1 o.old.length c1, .slice A2 o.new.length c2]] ∧ (j = none ∨ j = some (.exit 0)) ∧ out.length ≤ 5 * p ∧ p ≤ b.length ∧ repF o.old o.new n 0 b = out ++ b.drop p) hs rfl Tryz.func96 rfl (by kernel_rfl) ?hit ?done)
  case hit =>
    intro lp D rec hp ha hbd hst hpe hAg
    obtain ⟨state, pending, fn', tmps, params, assign, body, defers⟩ := rec
    dsimp only at hp ha hbd hst hpe hAg
    subst hst hpe
    refine FnOk.mono (occ1_ok (lp := lp) (J := fun p G' H' => ∃ (v : Value) (out : List UInt8) (n' : Nat), H' = [.obj lp (.loop { state := .ready, pending := none, fn := fn', tmps := tmps, params := params, assign := assign, body := body, defers := defers }), .obj D (.deferred (some [])), .row 5 1 v out.length (out.map byteV), .blk b8 3 [.int .i64 (p : Int)], .blk b7 22 [v], .blk b5 3 [.int .i64 (n' : Int)], .blk b4 22 [.slice A b.length cap], .blk b3 24 [.int .i64 o.kind, .slice A1 o.old.length c1, .slice A2 o.new.length c2]] ∧ n' ≤ n ∧ out.length ≤ 5 * p ∧ p ≤ b.length ∧ repF o.old o.new n 0 b = out ++ repF o.old o.new n' 0 (b.drop p)) (X := fun G' H' => ∃ (v : Value) (out : List UInt8) (p : Nat), H' = [.obj lp (.loop { state := .done, pending := some (.exit 0), fn := fn', tmps := tmps, params := params, assign := assign, body := body, defers := defers }), .obj D (.deferred (some [])), .row 5 1 v out.length (out.map byteV), .blk b8 3 [.int .i64 (p : Int)], .blk b7 22 [v], .blk b5 3 [.int .i64 ((0 : Nat) : Int)], .blk b4 22 [.slice A b.length cap], .blk b3 24 [.int .i64 o.kind, .slice A1 o.old.length c1, .slice A2 o.new.length c2]] ∧ out.length ≤ 5 * p ∧ p ≤ b.length ∧ repF o.old o.new n 0 b = out ++ b.drop p) hc1 hb hc2 ho1 hne (by omega) (by omega) ⟨mx, gcell_mono hs.le hm⟩ ?round (fun _ _ _ _ _ h => h) ⟨_, [], n, rfl, Nat.le_refl _, by simp, by simp, by simp⟩) ?fin
    case fin =>
      rintro r G' H' _ (⟨v, out, p, rfl, h1, h2, h3⟩ | ⟨p, hp, hN, v, out, n', rfl, _, h1, h2, h3⟩)
      · exact ⟨_, _, _, rfl, by simp, v, out, p, 0, rfl, Or.inr rfl, h1, h2, h3⟩
      · exact ⟨_, _, _, rfl, by simp, v, out, p, n', rfl, Or.inl rfl, h1, h2, by rw [h3, repF_none _ _ _ _ hN]⟩
    rintro p i G' H' hpl hi hle ⟨v7, out, n', rfl, hnn, hol, hpb, hrp⟩
    replace hb := hb.mono hle
    replace ho1 := ho1.mono hle
    replace ho2 := ho2.mono hle
    have hil := (repF_some o.old o.new hne 1 _ i (by omega) hi).2
    rw [List.length_drop] at hil
    subst hp ha hbd
    refine YieldOk.of_TX hAg rfl rfl (by simp) rfl fun w1 hs => ?_
    refine T_region rfl ?_
    refine O_y hs (Y_assign rfl ?_)
    refine O_nil ⟨hs, fun w2 hs => ?_⟩
    refine T_block (T_seq (T_seq (T_region rfl ?_)))
    refine O_y hs (Y_ld 5 Tryz.isAgg3 rfl rfl rfl ?_)
    refine O_y hs (Y_cmpS rfl rfl rfl (fun h16 => ?_) (fun h16 => ?_))
    · -- h16: True
      dsimp only [cmpP] at h16
      refine O_nil (T_sub [(3, _), (4, _), (5, _), (7, _), (8, _), (9, _), (16, _)] ⟨rfl, rfl, rfl, rfl, rfl, rfl, rfl, trivial⟩ ?_)
      refine T_condT rfl (T_exit ?_)
      obtain rfl : n' = 0 := by omega
      exact ⟨_, _, hs, false, rfl, v7, out, p, rfl, hol, hpb, by rw [hrp, repF_zero]⟩
    · -- h16: False
      dsimp only [cmpP] at h16
      refine O_nil (T_sub [(3, _), (4, _), (5, _), (7, _), (8, _), (9, _), (16, _)] ⟨rfl, rfl, rfl, rfl, rfl, rfl, rfl, trivial⟩ ?_)
      refine T_condF rfl (T_skip ?_)
      refine T_seq (T_region rfl ?_)
      refine O_y hs (Y_ld 5 Tryz.isAgg3 rfl rfl rfl ?_)
      refine O_y hs (Y_sub (c := ((n' - 1 : Nat) : Int)) rfl rfl (by omega) (by omega) ?_)
      have hs := hs.front 5 rfl (H' := [_, _, _, _, _, _, _, _]) rfl
      refine O_n (S_st hs Tryz.sizeOf3 rfl rfl rfl (by simp) (cs' := [_]) rfl fun _ hs => ?_)
      refine O_nil (T_sub [(3, _), (4, _), (7, _), (8, _), (9, _)] ⟨rfl, rfl, rfl, rfl, rfl, trivial⟩ ?_)
      have hs := hs.front 3 rfl (H' := [_, _, _, _, _, _, _, _]) rfl
      have hsW := hs.drop
      refine T_seq (T_drawS [0, 1, 2, 3, 4, 5, 6, 7] hsW (by kernel_rfl) ?_)
      replace hs := hs.drew
      replace hsW := hsW.drew
      refine A_take 0 rfl (by kernel_rfl) rfl hsW (Y_ld 4 Tryz.isAgg22 rfl rfl rfl ?_)
      refine A_take 1 rfl (by kernel_rfl) rfl hsW (Y_ld 5 Tryz.isAgg22 rfl rfl rfl ?_)
      refine A_take 2 rfl (by kernel_rfl) rfl hsW (Y_ld 3 Tryz.isAgg3 rfl rfl rfl ?_)
      refine A_take 3 rfl (by kernel_rfl) rfl hsW (Y_move rfl ?_)
      refine A_take 4 rfl (by kernel_rfl) rfl hsW (Y_sliceB hb p (p + i) Tryz.underlying22 Tryz.sizeOf5 rfl ⟨_, _, rfl, rfl⟩ ⟨_, _, rfl, rfl⟩ (by omega) (by omega) fun s23 hs23 => ?_)
      obtain ⟨A23, c23, rfl, _⟩ := id hs23
      refine A_take 6 rfl (by kernel_rfl) rfl hsW (Y_fieldAddr FO24_2 rfl (m := 2) rfl ?_)
      refine A_take 7 rfl (by kernel_rfl) rfl hsW (Y_ld 6 Tryz.isAgg22 rfl rfl rfl ?_)
      have hle := hs.le
      refine A_only 5 rfl (by kernel_rfl) rfl (S_append hs Tryz.underlying22 TI5 rfl (by decide) rfl rfl (hs23) (byteV_one) (by simp only [List.length_take, List.length_drop]; omega) (by simp only [List.length_take, List.length_drop]; omega) fun v2 _ hs => ?_)
      refine A_moreS hs hle (Ghost.le.refl _) (List.sublist_cons_self _ _) ?_
      refine A_tail 8 rfl (by kernel_rfl) (by kernel_rfl) rfl (S_append hs Tryz.underlying22 TI5 rfl (by decide) rfl rfl (ho2) (byteV_one) (by simp only [List.length_take, List.length_drop]; omega) (by simp only [List.length_take, List.length_drop]; omega) fun v3 _ hs => ?_)
      have hs := hs.front 5 rfl (H' := [_, _, _, _, _, _, _, _]) rfl
      refine A_tailN 9 rfl (by kernel_rfl) (by kernel_rfl) rfl (S_st hs Tryz.sizeOf22 rfl rfl (hs.rowOne 1 rfl) (by simp) (cs' := [_]) rfl fun _ hs => ?_)
      refine A_done (by kernel_rfl) (T_sub [(3, _), (8, _), (9, _)] ⟨rfl, rfl, rfl, trivial⟩ ?_)
      refine T_region rfl ?_
      refine O_y hs (Y_move rfl ?_)
      refine O_y hs (Y_fieldAddr FO24_1 rfl (m := 1) rfl ?_)
      refine O_y hs (Y_ld 7 Tryz.isAgg22 rfl rfl rfl ?_)
      refine O_y hs (Y_len Tryz.underlying22 rfl ?_)
      refine O_y hs (Y_add (c := ((p + i + o.old.length : Nat) : Int)) rfl rfl (by omega) (by omega) ?_)
      have hs := hs.front 5 rfl (H' := [_, _, _, _, _, _, _, _]) rfl
      refine O_n (S_st hs Tryz.sizeOf3 rfl rfl rfl (by simp) (cs' := [_]) rfl fun _ hs => ?_)
      have hs := hs.front 7 rfl (H' := [_, _, _, _, _, _, _, _]) rfl
      have hs := hs.front 7 rfl (H' := [_, _, _, _, _, _, _, _]) rfl
      have hs := hs.front 5 rfl (H' := [_, _, _, _, _, _, _, _]) rfl
      have hs := hs.front 4 rfl (H' := [_, _, _, _, _, _, _, _]) rfl
      have hs := hs.front 4 rfl (H' := [_, _, _, _, _, _, _, _]) rfl
      have hs := hs.front 5 rfl (H' := [_, _, _, _, _, _, _, _]) rfl
      have hs := hs.front 7 rfl (H' := [_, _, _, _, _, _, _, _]) rfl
      have hs := hs.front 7 rfl (H' := [_, _, _, _, _, _, _, _]) rfl
      refine O_nil ⟨_, _, hs, true, rfl, _, out ++ List.take (p + i - p) (List.drop p b) ++ o.new, n' - 1, by simp only [List.length_append, List.map_append]; try rfl, by omega, ?_, by omega, ?_⟩
      · simp only [List.length_append, List.length_take, List.length_drop]; omega
      · rw [hrp, (repF_some o.old o.new hne n' _ i (by omega) hi).1, List.drop_drop]; simp [Nat.add_assoc]
  case done =>
    rintro lp D o' j G' H2 w' ⟨v7, out, p, n', rfl, hj, hol, hpb, hrp⟩ hle hs
    replace hb := hb.mono hle
    rcases hj with rfl | rfl
    · -- the loop came to its end
      refine T_seq (T_drawS [0, 1, 2, 3] hs (by kernel_rfl) ?_)
      replace hs := hs.drew
      refine A_take 0 rfl (by kernel_rfl) rfl hs (Y_ld 4 Tryz.isAgg22 rfl rfl rfl ?_)
      refine A_take 1 rfl (by kernel_rfl) rfl hs (Y_ld 6 Tryz.isAgg22 rfl rfl rfl ?_)
      refine A_take 2 rfl (by kernel_rfl) rfl hs (Y_ld 3 Tryz.isAgg3 rfl rfl rfl ?_)
      refine A_take 3 rfl (by kernel_rfl) rfl hs (Y_sliceB hb p b.length Tryz.underlying22 Tryz.sizeOf5 rfl ⟨_, _, rfl, rfl⟩ rfl (by omega) (by omega) fun s36 hs36 => ?_)
      obtain ⟨A36, c36, rfl, _⟩ := id hs36
      have hs := hs.front 2 rfl (H' := [_, _, _, _, _, _, _, _]) rfl
      refine A_tail 4 rfl (by kernel_rfl) (by kernel_rfl) rfl (S_append hs Tryz.underlying22 TI5 rfl (by decide) rfl rfl (hs36) (byteV_one) (by simp only [List.length_take, List.length_drop]; omega) (by simp only [List.length_take, List.length_drop]; omega) fun v4 _ hs => ?_)
      refine A_tail 5 rfl (by kernel_rfl) (by kernel_rfl) rfl (S_y hs rfl (Y_assign rfl ?_))
      refine A_done (by kernel_rfl) (T_sub [(6, _)] ⟨rfl, trivial⟩ ?_)
      refine T_ret ?_
      have hs := hs.front 1 rfl (H' := [_, _, _, _, _, _, _, _]) rfl
      refine RtM_fin hs (vs := [_]) Tryz.results63 rfl (fun _ hs => ⟨⟨rfl, trivial⟩, ?_⟩)
      try dsimp only [tup]
      obtain ⟨G', hG, hf, hs3⟩ := hs.fixRow noM
      exact ⟨G', [], hs3.done, rfl, Bytes.ofSl (bs := repF o.old o.new n 0 b) hf (by rw [hrp, tk_drop]; simp) (by rw [hrp, tk_drop]; simp)⟩
    · -- it was left
      refine T_exit ?_
      refine T_seq (T_drawS [0, 1, 2, 3] hs (by kernel_rfl) ?_)
      replace hs := hs.drew
      refine A_take 0 rfl (by kernel_rfl) rfl hs (Y_ld 4 Tryz.isAgg22 rfl rfl rfl ?_)
      refine A_take 1 rfl (by kernel_rfl) rfl hs (Y_ld 6 Tryz.isAgg22 rfl rfl rfl ?_)
      refine A_take 2 rfl (by kernel_rfl) rfl hs (Y_ld 3 Tryz.isAgg3 rfl rfl rfl ?_)
      refine A_take 3 rfl (by kernel_rfl) rfl hs (Y_sliceB hb p b.length Tryz.underlying22 Tryz.sizeOf5 rfl ⟨_, _, rfl, rfl⟩ rfl (by omega) (by omega) fun s36 hs36 => ?_)
      obtain ⟨A36, c36, rfl, _⟩ := id hs36
      have hs := hs.front 2 rfl (H' := [_, _, _, _, _, _, _, _]) rfl
      refine A_tail 4 rfl (by kernel_rfl) (by kernel_rfl) rfl (S_append hs Tryz.underlying22 TI5 rfl (by decide) rfl rfl (hs36) (byteV_one) (by simp only [List.length_take, List.length_drop]; omega) (by simp only [List.length_take, List.length_drop]; omega) fun v5 _ hs => ?_)
      refine A_tail 5 rfl (by kernel_rfl) (by kernel_rfl) rfl (S_y hs rfl (Y_assign rfl ?_))
      refine A_done (by kernel_rfl) (T_sub [(6, _)] ⟨rfl, trivial⟩ ?_)
      refine T_ret ?_
      have hs := hs.front 1 rfl (H' := [_, _, _, _, _, _, _, _]) rfl
      refine RtM_fin hs (vs := [_]) Tryz.results63 rfl (fun _ hs => ⟨⟨rfl, trivial⟩, ?_⟩)
      try dsimp only [tup]
      obtain ⟨G', hG, hf, hs3⟩ := hs.fixRow noM
      exact ⟨G', [], hs3.done, rfl, Bytes.ofSl (bs := repF o.old o.new n 0 b) hf (by rw [hrp, tk_drop]; simp) (by rw [hrp, tk_drop]; simp)⟩

set_option maxHeartbeats 400000 in
set_option maxRecDepth 10000 in
theorem perc_f {G : Ghost} {v vb : Value} {o : OpV} {b : List UInt8} (ho : OpR G v o) (hb : Bytes G vb b) (hl : b.length ≤ 1000000000) :
    FnOk Tryz.prog 59 [v, vb] G [] fun r G' H' => H' = [] ∧ ∃ u, r = .tuple #[u, .bool (percF false 0 b).isSome] ∧ Bytes G' u ((percF false 0 b).getD []) := by
  obtain ⟨u1, u2, rfl, ho1, ho2⟩ := ho
  obtain ⟨A1, c1, rfl, _⟩ := id ho1
  obtain ⟨A2, c2, rfl, _⟩ := id ho2
  obtain ⟨A, cap, rfl, _⟩ := id hb
  refine FnOk.of_T [(0, _), (1, _)] Tryz.func59 rfl Tryz.ntmps59 (by simp) rfl fun w0 hs => ?_
  have hb0 := hb
  refine T_seq (T_region rfl ?_)
  refine O_s (S_box hs rfl (cs := [_, _, _]) rfl fun b2 _ hs => ?_)
  refine O_y hs (Y_assign rfl ?_)
  refine O_y hs (Y_assign rfl ?_)
  refine O_nil (T_sub [(1, _)] ⟨rfl, trivial⟩ ?_)
  refine T_seq (T_region rfl ?_)
  refine O_y hs (Y_move rfl ?_)
  refine O_s (S_call (H1 := []) hs rfl Tryz.func60 rfl (by kernel_rfl) (dec_f hb hl) fun v1 G' H' _ hR hG7 hs => ?_)
  obtain ⟨rfl, u7, rfl, hu7⟩ := hR
  replace hs : St _ _ [_] _ := hs
  replace hb := hb.mono hG7
  refine O_y hs (Y_extract rfl rfl ?_)
  refine O_y hs (Y_extract rfl rfl ?_)
  refine O_y hs (Y_assign rfl ?_)
  refine O_y hs (Y_assign rfl ?_)
  refine O_nil (T_sub [(4, _), (5, _)] ⟨rfl, rfl, trivial⟩ ?_)
  refine T_ret ?_
  refine Rt_fin (vs := [_, _]) Tryz.results59 rfl ⟨rfl, rfl, trivial⟩ ?_
  try dsimp only [tup]
  exact ⟨_, [], hs.done, rfl, _, rfl, hu7⟩

set_option maxHeartbeats 400000 in
set_option maxRecDepth 10000 in
theorem perc_t {G : Ghost} {v vb : Value} {o : OpV} {b : List UInt8} (ho : OpR G v o) (hb : Bytes G vb b) (hl : b.length ≤ 1000000000) :
    FnOk Tryz.prog 61 [v, vb] G [] fun r G' H' => H' = [] ∧ ∃ u, r = .tuple #[u, .bool (percF true 0 b).isSome] ∧ Bytes G' u ((percF true 0 b).getD []) := by
  obtain ⟨u1, u2, rfl, ho1, ho2⟩ := ho
  obtain ⟨A1, c1, rfl, _⟩ := id ho1
  obtain ⟨A2, c2, rfl, _⟩ := id ho2
  obtain ⟨A, cap, rfl, _⟩ := id hb
  refine FnOk.of_T [(0, _), (1, _)] Tryz.func61 rfl Tryz.ntmps61 (by simp) rfl fun w0 hs => ?_
  have hb0 := hb
  refine T_seq (T_region rfl ?_)
  refine O_s (S_box hs rfl (cs := [_, _, _]) rfl fun b2 _ hs => ?_)
  refine O_y hs (Y_assign rfl ?_)
  refine O_y hs (Y_assign rfl ?_)
  refine O_nil (T_sub [(1, _)] ⟨rfl, trivial⟩ ?_)
  refine T_seq (T_region rfl ?_)
  refine O_y hs (Y_move rfl ?_)
  refine O_s (S_call (H1 := []) hs rfl Tryz.func60 rfl (by kernel_rfl) (dec_t hb hl) fun v1 G' H' _ hR hG7 hs => ?_)
  obtain ⟨rfl, u7, rfl, hu7⟩ := hR
  replace hs : St _ _ [_] _ := hs
  replace hb := hb.mono hG7
  refine O_y hs (Y_extract rfl rfl ?_)
  refine O_y hs (Y_extract rfl rfl ?_)
  refine O_y hs (Y_assign rfl ?_)
  refine O_y hs (Y_assign rfl ?_)
  refine O_nil (T_sub [(4, _), (5, _)] ⟨rfl, rfl, trivial⟩ ?_)
  refine T_ret ?_
  refine Rt_fin (vs := [_, _]) Tryz.results61 rfl ⟨rfl, rfl, trivial⟩ ?_
  try dsimp only [tup]
  exact ⟨_, [], hs.done, rfl, _, rfl, hu7⟩

set_option maxHeartbeats 400000 in
set_option maxRecDepth 10000 in
theorem repl_1 {G : Ghost} {v vb : Value} {o : OpV} {b : List UInt8} (ho : OpR G v o) (hb : Bytes G vb b) (hne : o.old ≠ []) (hol4 : o.old.length ≤ 4) (hon4 : o.new.length ≤ 4) (hl : b.length ≤ 100000000) (hm : ∃ m : Int, gcell G ⟨0, 0, none⟩ = some (.int .i64 m)) :
    FnOk Tryz.prog 62 [v, vb] G [] fun r G' H' => H' = [] ∧ ∃ u, r = .tuple #[u, .bool true] ∧ Bytes G' u (repF o.old o.new 1 0 b) := by
  obtain ⟨u1, u2, rfl, ho1, ho2⟩ := ho
  obtain ⟨A1, c1, rfl, _⟩ := id ho1
  obtain ⟨A2, c2, rfl, _⟩ := id ho2
  obtain ⟨A, cap, rfl, _⟩ := id hb
  obtain ⟨mx, hm⟩ := hm
  refine FnOk.of_T [(0, _), (1, _)] Tryz.func62 rfl Tryz.ntmps62 (by simp) rfl fun w0 hs => ?_
  have hb0 := hb
  have ho10 := ho1
  have ho20 := ho2
  refine T_seq (T_region rfl ?_)
  refine O_s (S_box hs rfl (cs := [_, _, _]) rfl fun b2 _ hs => ?_)
  refine O_y hs (Y_assign rfl ?_)
  refine O_y hs (Y_assign rfl ?_)
  refine O_nil (T_sub [(1, _), (2, _)] ⟨rfl, rfl, trivial⟩ ?_)
  refine T_seq (T_region rfl ?_)
  refine O_y hs (Y_ldA 0 Tryz.isAgg24 Tryz.sizeOf24 rfl rfl (vs := [_, _, _]) rfl rfl ?_)
  refine O_y hs (Y_move rfl ?_)
  refine O_s (S_call (H1 := []) hs rfl Tryz.func63 rfl (by kernel_rfl) (rep_ok (n := 1) ⟨_, _, rfl, ho1, ho2⟩ hb hne hol4 hon4 (by omega) (by omega) ⟨mx, gcell_mono hs.le hm⟩) fun v1 G' H' _ hR hG8 hs => ?_)
  obtain ⟨rfl, hu⟩ := hR
  replace hs : St _ _ [_] _ := hs
  replace hb := hb.mono hG8
  replace ho1 := ho1.mono hG8
  replace ho2 := ho2.mono hG8
  refine O_y hs (Y_assign rfl ?_)
  refine O_y hs (Y_assign rfl ?_)
  refine O_nil (T_sub [(4, _), (5, _)] ⟨rfl, rfl, trivial⟩ ?_)
  refine T_ret ?_
  refine Rt_fin (vs := [_, _]) Tryz.results62 rfl ⟨rfl, rfl, trivial⟩ ?_
  try dsimp only [tup]
  exact ⟨_, [], hs.done, rfl, _, rfl, hu⟩

set_option maxHeartbeats 400000 in
set_option maxRecDepth 10000 in
theorem repl_a {G : Ghost} {v vb : Value} {o : OpV} {b : List UInt8} (ho : OpR G v o) (hb : Bytes G vb b) (hne : o.old ≠ []) (hol4 : o.old.length ≤ 4) (hon4 : o.new.length ≤ 4) (hl : b.length ≤ 100000000) (hm : ∃ m : Int, gcell G ⟨0, 0, none⟩ = some (.int .i64 m)) :
    FnOk Tryz.prog 64 [v, vb] G [] fun r G' H' => H' = [] ∧ ∃ u, r = .tuple #[u, .bool true] ∧ Bytes G' u (repF o.old o.new b.length 0 b) := by
  obtain ⟨u1, u2, rfl, ho1, ho2⟩ := ho
  obtain ⟨A1, c1, rfl, _⟩ := id ho1
  obtain ⟨A2, c2, rfl, _⟩ := id ho2
  obtain ⟨A, cap, rfl, _⟩ := id hb
  obtain ⟨mx, hm⟩ := hm
  refine FnOk.of_T [(0, _), (1, _)] Tryz.func64 rfl Tryz.ntmps64 (by simp) rfl fun w0 hs => ?_
  have hb0 := hb
  have ho10 := ho1
  have ho20 := ho2
  refine T_seq (T_region rfl ?_)
  refine O_s (S_box hs rfl (cs := [_, _, _]) rfl fun b2 _ hs => ?_)
  refine O_y hs (Y_assign rfl ?_)
  refine O_y hs (Y_assign rfl ?_)
  refine O_nil (T_sub [(1, _), (2, _)] ⟨rfl, rfl, trivial⟩ ?_)
  refine T_seq (T_region rfl ?_)
  refine O_y hs (Y_ldA 0 Tryz.isAgg24 Tryz.sizeOf24 rfl rfl (vs := [_, _, _]) rfl rfl ?_)
  refine O_y hs (Y_move rfl ?_)
  refine O_y hs (Y_move rfl ?_)
  refine O_y hs (Y_len Tryz.underlying22 rfl ?_)
  refine O_s (S_call (H1 := []) hs rfl Tryz.func63 rfl (by kernel_rfl) (rep_ok (n := b.length) ⟨_, _, rfl, ho1, ho2⟩ hb hne hol4 hon4 (by omega) (by omega) ⟨mx, gcell_mono hs.le hm⟩) fun v1 G' H' _ hR hG10 hs => ?_)
  obtain ⟨rfl, hu⟩ := hR
  replace hs : St _ _ [_] _ := hs
  replace hb := hb.mono hG10
  replace ho1 := ho1.mono hG10
  replace ho2 := ho2.mono hG10
  refine O_y hs (Y_assign rfl ?_)
  refine O_y hs (Y_assign rfl ?_)
  refine O_nil (T_sub [(4, _), (5, _)] ⟨rfl, rfl, trivial⟩ ?_)
  refine T_ret ?_
  refine Rt_fin (vs := [_, _]) Tryz.results64 rfl ⟨rfl, rfl, trivial⟩ ?_
  try dsimp only [tup]
  exact ⟨_, [], hs.done, rfl, _, rfl, hu⟩

set_option maxHeartbeats 400000 in
set_option maxRecDepth 10000 in
theorem do_1 {G : Ghost} {v vb : Value} {old new b : List UInt8} (ho : OpR G v ⟨1, old, new⟩) (hb : Bytes G vb b) (hv : validO ⟨1, old, new⟩ = true) (hl : b.length ≤ 100000000) :
    FnOk Tryz.prog 10 [v, vb] G [] fun r G' H' => H' = [] ∧ ∃ u, r = .tuple #[u, .bool (doF ⟨1, old, new⟩ b).isSome] ∧ Bytes G' u ((doF ⟨1, old, new⟩ b).getD []) := by
  obtain ⟨u1, u2, hve, ho1, ho2⟩ := ho
  subst hve
  dsimp only at ho1 ho2
  obtain ⟨A1, c1, rfl, _⟩ := id ho1
  obtain ⟨A2, c2, rfl, _⟩ := id ho2
  obtain ⟨A, cap, rfl, _⟩ := id hb
  have hd : doF ⟨1, old, new⟩ b = some (b.map lowerF) := by unfold doF; rw [if_neg (by simp [hv])]; simp
  refine FnOk.of_T [(0, _), (1, _)] Tryz.func10 rfl Tryz.ntmps10 (by simp) rfl fun w0 hs => ?_
  have hb0 := hb
  have ho10 := ho1
  have ho20 := ho2
  refine T_seq (T_region rfl ?_)
  refine O_s (S_box hs rfl (cs := [_, _, _]) rfl fun b2 _ hs => ?_)
  refine O_y hs (Y_assign rfl ?_)
  refine O_y hs (Y_assign rfl ?_)
  refine O_nil (T_sub [(1, _), (2, _)] ⟨rfl, rfl, trivial⟩ ?_)
  refine T_seq (T_seq (T_region rfl ?_))
  refine O_y hs (Y_ldA 0 Tryz.isAgg24 Tryz.sizeOf24 rfl rfl (vs := [_, _, _]) rfl rfl ?_)
  refine O_s (S_call (H1 := []) hs rfl Tryz.func12 rfl (by kernel_rfl) (valid_ok (o := ⟨1, old, new⟩) ⟨_, _, rfl, ho1, ho2⟩) fun v1 G' H' _ hR hG7 hs => ?_)
  obtain ⟨rfl, rfl⟩ := hR
  replace hs : St _ _ [_] _ := hs
  replace hb := hb.mono hG7
  replace ho1 := ho1.mono hG7
  replace ho2 := ho2.mono hG7
  refine O_y hs (Y_cmpF rfl rfl rfl (by simp [cmpP, hv]) ?_)
  refine O_nil (T_sub [(1, _), (2, _), (8, _)] ⟨rfl, rfl, rfl, trivial⟩ ?_)
  refine T_condF rfl (T_skip ?_)
  refine T_seq (T_drawS [0, 1, 2, 3, 4, 5, 6, 7, 8, 9, 10, 11] hs (by kernel_rfl) ?_)
  replace hs := hs.drew
  refine A_take 1 rfl (by kernel_rfl) rfl hs (Y_fieldAddr FO24_0 rfl (m := 0) rfl ?_)
  refine A_take 2 rfl (by kernel_rfl) rfl hs (Y_ld 0 Tryz.isAgg3 rfl rfl rfl ?_)
  refine A_take 5 rfl (by kernel_rfl) rfl hs (Y_ldA 0 Tryz.isAgg24 Tryz.sizeOf24 rfl rfl (vs := [_, _, _]) rfl rfl ?_)
  refine A_take 6 rfl (by kernel_rfl) rfl hs (Y_move rfl ?_)
  have hle := hs.le
  refine A_only 0 rfl (by kernel_rfl) rfl (S_call (H1 := []) hs rfl Tryz.func28 rfl (by kernel_rfl) (ops_ok) fun v2 G' H' _ hR hG9 hs => ?_)
  obtain ⟨b9, c1_, c2_, c7_, c8_, rfl, rfl, hk1, hk2, hk7, hk8⟩ := hR
  replace hs : St _ _ [_, _] _ := hs
  replace hb := hb.mono hG9
  replace ho1 := ho1.mono hG9
  replace ho2 := ho2.mono hG9
  refine A_moreS hs hle hG9 (List.sublist_cons_self _ _) ?_
  refine A_take 3 rfl (by kernel_rfl) rfl hs (Y_lookupI 0 rfl Tryz.underlying61 Tryz.underlying3 rfl rfl rfl ?_)
  refine A_take 4 rfl (by kernel_rfl) rfl hs (Y_field rfl field_do ?_)
  have hle := hs.le
  refine A_only 7 rfl (by kernel_rfl) rfl (S_callV (args := [_, _]) (lb := [_]) (H1 := []) hs rfl rfl Tryz.func53 rfl (by kernel_rfl) (each_ok ⟨_, _, rfl, ho1, ho2⟩ hb hk1 Tryz.func54 rfl (by kernel_rfl) (fun _ _ _ _ hG hn => low_step ⟨_, _, rfl, ho1.mono hG, ho2.mono hG⟩ hn) (fun _ _ => by simp [lowS]) (by omega)) fun v3 G' H' _ hR hG16 hs => ?_)
  obtain ⟨rfl, u16, rfl, hu16⟩ := hR
  replace hs : St _ _ [_, _] _ := hs
  replace hb := hb.mono hG16
  replace ho1 := ho1.mono hG16
  replace ho2 := ho2.mono hG16
  replace hk1 := hk1.mono hG16
  replace hk2 := hk2.mono hG16
  replace hk7 := hk7.mono hG16
  replace hk8 := hk8.mono hG16
  refine A_moreS hs hle hG16 (List.Sublist.refl _) ?_
  refine A_take 8 rfl (by kernel_rfl) rfl hs (Y_extract rfl rfl ?_)
  refine A_take 9 rfl (by kernel_rfl) rfl hs (Y_extract rfl rfl ?_)
  refine A_take 10 rfl (by kernel_rfl) rfl hs (Y_assign rfl ?_)
  refine A_take 11 rfl (by kernel_rfl) rfl hs (Y_assign rfl ?_)
  refine A_done (by kernel_rfl) (T_sub [(4, _), (5, _)] ⟨rfl, rfl, trivial⟩ ?_)
  refine T_ret ?_
  refine Rt_fin (vs := [_, _]) Tryz.results10 rfl ⟨rfl, rfl, trivial⟩ ?_
  try dsimp only [tup]
  rw [hd]
  exact ⟨_, [], hs.done, rfl, _, rfl, Bytes.cast (low_fold b []) hu16⟩

set_option maxHeartbeats 400000 in
set_option maxRecDepth 10000 in
theorem do_2 {G : Ghost} {v vb : Value} {old new b : List UInt8} (ho : OpR G v ⟨2, old, new⟩) (hb : Bytes G vb b) (hv : validO ⟨2, old, new⟩ = true) (hl : b.length ≤ 100000000) :
    FnOk Tryz.prog 10 [v, vb] G [] fun r G' H' => H' = [] ∧ ∃ u, r = .tuple #[u, .bool (doF ⟨2, old, new⟩ b).isSome] ∧ Bytes G' u ((doF ⟨2, old, new⟩ b).getD []) := by
  obtain ⟨u1, u2, hve, ho1, ho2⟩ := ho
  subst hve
  dsimp only at ho1 ho2
  obtain ⟨A1, c1, rfl, _⟩ := id ho1
  obtain ⟨A2, c2, rfl, _⟩ := id ho2
  obtain ⟨A, cap, rfl, _⟩ := id hb
  have hd : doF ⟨2, old, new⟩ b = some (b.map upperF) := by unfold doF; rw [if_neg (by simp [hv])]; simp
  refine FnOk.of_T [(0, _), (1, _)] Tryz.func10 rfl Tryz.ntmps10 (by simp) rfl fun w0 hs => ?_
  have hb0 := hb
  have ho10 := ho1
  have ho20 := ho2
  refine T_seq (T_region rfl ?_)
  refine O_s (S_box hs rfl (cs := [_, _, _]) rfl fun b2 _ hs => ?_)
  refine O_y hs (Y_assign rfl ?_)
  refine O_y hs (Y_assign rfl ?_)
  refine O_nil (T_sub [(1, _), (2, _)] ⟨rfl, rfl, trivial⟩ ?_)
  refine T_seq (T_seq (T_region rfl ?_))
  refine O_y hs (Y_ldA 0 Tryz.isAgg24 Tryz.sizeOf24 rfl rfl (vs := [_, _, _]) rfl rfl ?_)
  refine O_s (S_call (H1 := []) hs rfl Tryz.func12 rfl (by kernel_rfl) (valid_ok (o := ⟨2, old, new⟩) ⟨_, _, rfl, ho1, ho2⟩) fun v1 G' H' _ hR hG7 hs => ?_)
  obtain ⟨rfl, rfl⟩ := hR
  replace hs : St _ _ [_] _ := hs
  replace hb := hb.mono hG7
  replace ho1 := ho1.mono hG7
  replace ho2 := ho2.mono hG7
  refine O_y hs (Y_cmpF rfl rfl rfl (by simp [cmpP, hv]) ?_)
  refine O_nil (T_sub [(1, _), (2, _), (8, _)] ⟨rfl, rfl, rfl, trivial⟩ ?_)
  refine T_condF rfl (T_skip ?_)
  refine T_seq (T_drawS [0, 1, 2, 3, 4, 5, 6, 7, 8, 9, 10, 11] hs (by kernel_rfl) ?_)
  replace hs := hs.drew
  refine A_take 1 rfl (by kernel_rfl) rfl hs (Y_fieldAddr FO24_0 rfl (m := 0) rfl ?_)
  refine A_take 2 rfl (by kernel_rfl) rfl hs (Y_ld 0 Tryz.isAgg3 rfl rfl rfl ?_)
  refine A_take 5 rfl (by kernel_rfl) rfl hs (Y_ldA 0 Tryz.isAgg24 Tryz.sizeOf24 rfl rfl (vs := [_, _, _]) rfl rfl ?_)
  refine A_take 6 rfl (by kernel_rfl) rfl hs (Y_move rfl ?_)
  have hle := hs.le
  refine A_only 0 rfl (by kernel_rfl) rfl (S_call (H1 := []) hs rfl Tryz.func28 rfl (by kernel_rfl) (ops_ok) fun v2 G' H' _ hR hG9 hs => ?_)
  obtain ⟨b9, c1_, c2_, c7_, c8_, rfl, rfl, hk1, hk2, hk7, hk8⟩ := hR
  replace hs : St _ _ [_, _] _ := hs
  replace hb := hb.mono hG9
  replace ho1 := ho1.mono hG9
  replace ho2 := ho2.mono hG9
  refine A_moreS hs hle hG9 (List.sublist_cons_self _ _) ?_
  refine A_take 3 rfl (by kernel_rfl) rfl hs (Y_lookupI 0 rfl Tryz.underlying61 Tryz.underlying3 rfl rfl rfl ?_)
  refine A_take 4 rfl (by kernel_rfl) rfl hs (Y_field rfl field_do ?_)
  have hle := hs.le
  refine A_only 7 rfl (by kernel_rfl) rfl (S_callV (args := [_, _]) (lb := [_]) (H1 := []) hs rfl rfl Tryz.func53 rfl (by kernel_rfl) (each_ok ⟨_, _, rfl, ho1, ho2⟩ hb hk2 Tryz.func55 rfl (by kernel_rfl) (fun _ _ _ _ hG hn => up_step ⟨_, _, rfl, ho1.mono hG, ho2.mono hG⟩ hn) (fun _ _ => by simp [upS]) (by omega)) fun v3 G' H' _ hR hG16 hs => ?_)
  obtain ⟨rfl, u16, rfl, hu16⟩ := hR
  replace hs : St _ _ [_, _] _ := hs
  replace hb := hb.mono hG16
  replace ho1 := ho1.mono hG16
  replace ho2 := ho2.mono hG16
  replace hk1 := hk1.mono hG16
  replace hk2 := hk2.mono hG16
  replace hk7 := hk7.mono hG16
  replace hk8 := hk8.mono hG16
  refine A_moreS hs hle hG16 (List.Sublist.refl _) ?_
  refine A_take 8 rfl (by kernel_rfl) rfl hs (Y_extract rfl rfl ?_)
  refine A_take 9 rfl (by kernel_rfl) rfl hs (Y_extract rfl rfl ?_)
  refine A_take 10 rfl (by kernel_rfl) rfl hs (Y_assign rfl ?_)
  refine A_take 11 rfl (by kernel_rfl) rfl hs (Y_assign rfl ?_)
  refine A_done (by kernel_rfl) (T_sub [(4, _), (5, _)] ⟨rfl, rfl, trivial⟩ ?_)
  refine T_ret ?_
  refine Rt_fin (vs := [_, _]) Tryz.results10 rfl ⟨rfl, rfl, trivial⟩ ?_
  try dsimp only [tup]
  rw [hd]
  exact ⟨_, [], hs.done, rfl, _, rfl, Bytes.cast (up_fold b []) hu16⟩

set_option maxHeartbeats 400000 in
set_option maxRecDepth 10000 in
theorem do_3 {G : Ghost} {v vb : Value} {old new b : List UInt8} (ho : OpR G v ⟨3, old, new⟩) (hb : Bytes G vb b) (hv : validO ⟨3, old, new⟩ = true) (hl : b.length ≤ 100000000) :
    FnOk Tryz.prog 10 [v, vb] G [] fun r G' H' => H' = [] ∧ ∃ u, r = .tuple #[u, .bool (doF ⟨3, old, new⟩ b).isSome] ∧ Bytes G' u ((doF ⟨3, old, new⟩ b).getD []) := by
  obtain ⟨u1, u2, hve, ho1, ho2⟩ := ho
  subst hve
  dsimp only at ho1 ho2
  obtain ⟨A1, c1, rfl, _⟩ := id ho1
  obtain ⟨A2, c2, rfl, _⟩ := id ho2
  obtain ⟨A, cap, rfl, _⟩ := id hb
  have hd : doF ⟨3, old, new⟩ b = percF false 0 b := by unfold doF; rw [if_neg (by simp [hv])]; simp
  refine FnOk.of_T [(0, _), (1, _)] Tryz.func10 rfl Tryz.ntmps10 (by simp) rfl fun w0 hs => ?_
  have hb0 := hb
  have ho10 := ho1
  have ho20 := ho2
  refine T_seq (T_region rfl ?_)
  refine O_s (S_box hs rfl (cs := [_, _, _]) rfl fun b2 _ hs => ?_)
  refine O_y hs (Y_assign rfl ?_)
  refine O_y hs (Y_assign rfl ?_)
  refine O_nil (T_sub [(1, _), (2, _)] ⟨rfl, rfl, trivial⟩ ?_)
  refine T_seq (T_seq (T_region rfl ?_))
  refine O_y hs (Y_ldA 0 Tryz.isAgg24 Tryz.sizeOf24 rfl rfl (vs := [_, _, _]) rfl rfl ?_)
  refine O_s (S_call (H1 := []) hs rfl Tryz.func12 rfl (by kernel_rfl) (valid_ok (o := ⟨3, old, new⟩) ⟨_, _, rfl, ho1, ho2⟩) fun v1 G' H' _ hR hG7 hs => ?_)
  obtain ⟨rfl, rfl⟩ := hR
  replace hs : St _ _ [_] _ := hs
  replace hb := hb.mono hG7
  replace ho1 := ho1.mono hG7
  replace ho2 := ho2.mono hG7
  refine O_y hs (Y_cmpF rfl rfl rfl (by simp [cmpP, hv]) ?_)
  refine O_nil (T_sub [(1, _), (2, _), (8, _)] ⟨rfl, rfl, rfl, trivial⟩ ?_)
  refine T_condF rfl (T_skip ?_)
  refine T_seq (T_drawS [0, 1, 2, 3, 4, 5, 6, 7, 8, 9, 10, 11] hs (by kernel_rfl) ?_)
  replace hs := hs.drew
  refine A_take 1 rfl (by kernel_rfl) rfl hs (Y_fieldAddr FO24_0 rfl (m := 0) rfl ?_)
  refine A_take 2 rfl (by kernel_rfl) rfl hs (Y_ld 0 Tryz.isAgg3 rfl rfl rfl ?_)
  refine A_take 5 rfl (by kernel_rfl) rfl hs (Y_ldA 0 Tryz.isAgg24 Tryz.sizeOf24 rfl rfl (vs := [_, _, _]) rfl rfl ?_)
  refine A_take 6 rfl (by kernel_rfl) rfl hs (Y_move rfl ?_)
  have hle := hs.le
  refine A_only 0 rfl (by kernel_rfl) rfl (S_call (H1 := []) hs rfl Tryz.func28 rfl (by kernel_rfl) (ops_ok) fun v2 G' H' _ hR hG9 hs => ?_)
  obtain ⟨b9, c1_, c2_, c7_, c8_, rfl, rfl, hk1, hk2, hk7, hk8⟩ := hR
  replace hs : St _ _ [_, _] _ := hs
  replace hb := hb.mono hG9
  replace ho1 := ho1.mono hG9
  replace ho2 := ho2.mono hG9
  refine A_moreS hs hle hG9 (List.sublist_cons_self _ _) ?_
  refine A_take 3 rfl (by kernel_rfl) rfl hs (Y_lookupI 0 rfl Tryz.underlying61 Tryz.underlying3 rfl rfl rfl ?_)
  refine A_take 4 rfl (by kernel_rfl) rfl hs (Y_field rfl field_do ?_)
  have hle := hs.le
  refine A_only 7 rfl (by kernel_rfl) rfl (S_callV (args := [_, _]) (lb := []) (H1 := []) hs rfl rfl Tryz.func59 rfl (by kernel_rfl) (perc_f ⟨_, _, rfl, ho1, ho2⟩ hb (by omega)) fun v3 G' H' _ hR hG16 hs => ?_)
  obtain ⟨rfl, u16, rfl, hu16⟩ := hR
  replace hs : St _ _ [_, _] _ := hs
  replace hb := hb.mono hG16
  replace ho1 := ho1.mono hG16
  replace ho2 := ho2.mono hG16
  replace hk1 := hk1.mono hG16
  replace hk2 := hk2.mono hG16
  replace hk7 := hk7.mono hG16
  replace hk8 := hk8.mono hG16
  refine A_moreS hs hle hG16 (List.Sublist.refl _) ?_
  refine A_take 8 rfl (by kernel_rfl) rfl hs (Y_extract rfl rfl ?_)
  refine A_take 9 rfl (by kernel_rfl) rfl hs (Y_extract rfl rfl ?_)
  refine A_take 10 rfl (by kernel_rfl) rfl hs (Y_assign rfl ?_)
  refine A_take 11 rfl (by kernel_rfl) rfl hs (Y_assign rfl ?_)
  refine A_done (by kernel_rfl) (T_sub [(4, _), (5, _)] ⟨rfl, rfl, trivial⟩ ?_)
  refine T_ret ?_
  refine Rt_fin (vs := [_, _]) Tryz.results10 rfl ⟨rfl, rfl, trivial⟩ ?_
  try dsimp only [tup]
  rw [hd]
  exact ⟨_, [], hs.done, rfl, _, rfl, hu16⟩

set_option maxHeartbeats 400000 in
set_option maxRecDepth 10000 in
theorem do_4 {G : Ghost} {v vb : Value} {old new b : List UInt8} (ho : OpR G v ⟨4, old, new⟩) (hb : Bytes G vb b) (hv : validO ⟨4, old, new⟩ = true) (hl : b.length ≤ 100000000) :
    FnOk Tryz.prog 10 [v, vb] G [] fun r G' H' => H' = [] ∧ ∃ u, r = .tuple #[u, .bool (doF ⟨4, old, new⟩ b).isSome] ∧ Bytes G' u ((doF ⟨4, old, new⟩ b).getD []) := by
  obtain ⟨u1, u2, hve, ho1, ho2⟩ := ho
  subst hve
  dsimp only at ho1 ho2
  obtain ⟨A1, c1, rfl, _⟩ := id ho1
  obtain ⟨A2, c2, rfl, _⟩ := id ho2
  obtain ⟨A, cap, rfl, _⟩ := id hb
  have hd : doF ⟨4, old, new⟩ b = percF true 0 b := by unfold doF; rw [if_neg (by simp [hv])]; simp
  refine FnOk.of_T [(0, _), (1, _)] Tryz.func10 rfl Tryz.ntmps10 (by simp) rfl fun w0 hs => ?_
  have hb0 := hb
  have ho10 := ho1
  have ho20 := ho2
  refine T_seq (T_region rfl ?_)
  refine O_s (S_box hs rfl (cs := [_, _, _]) rfl fun b2 _ hs => ?_)
  refine O_y hs (Y_assign rfl ?_)
  refine O_y hs (Y_assign rfl ?_)
  refine O_nil (T_sub [(1, _), (2, _)] ⟨rfl, rfl, trivial⟩ ?_)
  refine T_seq (T_seq (T_region rfl ?_))
  refine O_y hs (Y_ldA 0 Tryz.isAgg24 Tryz.sizeOf24 rfl rfl (vs := [_, _, _]) rfl rfl ?_)
  refine O_s (S_call (H1 := []) hs rfl Tryz.func12 rfl (by kernel_rfl) (valid_ok (o := ⟨4, old, new⟩) ⟨_, _, rfl, ho1, ho2⟩) fun v1 G' H' _ hR hG7 hs => ?_)
  obtain ⟨rfl, rfl⟩ := hR
  replace hs : St _ _ [_] _ := hs
  replace hb := hb.mono hG7
  replace ho1 := ho1.mono hG7
  replace ho2 := ho2.mono hG7
  refine O_y hs (Y_cmpF rfl rfl rfl (by simp [cmpP, hv]) ?_)
  refine O_nil (T_sub [(1, _), (2, _), (8, _)] ⟨rfl, rfl, rfl, trivial⟩ ?_)
  refine T_condF rfl (T_skip ?_)
  refine T_seq (T_drawS [0, 1, 2, 3, 4, 5, 6, 7, 8, 9, 10, 11] hs (by kernel_rfl) ?_)
  replace hs := hs.drew
  refine A_take 1 rfl (by kernel_rfl) rfl hs (Y_fieldAddr FO24_0 rfl (m := 0) rfl ?_)
  refine A_take 2 rfl (by kernel_rfl) rfl hs (Y_ld 0 Tryz.isAgg3 rfl rfl rfl ?_)
  refine A_take 5 rfl (by kernel_rfl) rfl hs (Y_ldA 0 Tryz.isAgg24 Tryz.sizeOf24 rfl rfl (vs := [_, _, _]) rfl rfl ?_)
  refine A_take 6 rfl (by kernel_rfl) rfl hs (Y_move rfl ?_)
  have hle := hs.le
  refine A_only 0 rfl (by kernel_rfl) rfl (S_call (H1 := []) hs rfl Tryz.func28 rfl (by kernel_rfl) (ops_ok) fun v2 G' H' _ hR hG9 hs => ?_)
  obtain ⟨b9, c1_, c2_, c7_, c8_, rfl, rfl, hk1, hk2, hk7, hk8⟩ := hR
  replace hs : St _ _ [_, _] _ := hs
  replace hb := hb.mono hG9
  replace ho1 := ho1.mono hG9
  replace ho2 := ho2.mono hG9
  refine A_moreS hs hle hG9 (List.sublist_cons_self _ _) ?_
  refine A_take 3 rfl (by kernel_rfl) rfl hs (Y_lookupI 0 rfl Tryz.underlying61 Tryz.underlying3 rfl rfl rfl ?_)
  refine A_take 4 rfl (by kernel_rfl) rfl hs (Y_field rfl field_do ?_)
  have hle := hs.le
  refine A_only 7 rfl (by kernel_rfl) rfl (S_callV (args := [_, _]) (lb := []) (H1 := []) hs rfl rfl Tryz.func61 rfl (by kernel_rfl) (perc_t ⟨_, _, rfl, ho1, ho2⟩ hb (by omega)) fun v3 G' H' _ hR hG16 hs => ?_)
  obtain ⟨rfl, u16, rfl, hu16⟩ := hR
  replace hs : St _ _ [_, _] _ := hs
  replace hb := hb.mono hG16
  replace ho1 := ho1.mono hG16
  replace ho2 := ho2.mono hG16
  replace hk1 := hk1.mono hG16
  replace hk2 := hk2.mono hG16
  replace hk7 := hk7.mono hG16
  replace hk8 := hk8.mono hG16
  refine A_moreS hs hle hG16 (List.Sublist.refl _) ?_
  refine A_take 8 rfl (by kernel_rfl) rfl hs (Y_extract rfl rfl ?_)
  refine A_take 9 rfl (by kernel_rfl) rfl hs (Y_extract rfl rfl ?_)
  refine A_take 10 rfl (by kernel_rfl) rfl hs (Y_assign rfl ?_)
  refine A_take 11 rfl (by kernel_rfl) rfl hs (Y_assign rfl ?_)
  refine A_done (by kernel_rfl) (T_sub [(4, _), (5, _)] ⟨rfl, rfl, trivial⟩ ?_)
  refine T_ret ?_
  refine Rt_fin (vs := [_, _]) Tryz.results10 rfl ⟨rfl, rfl, trivial⟩ ?_
  try dsimp only [tup]
  rw [hd]
  exact ⟨_, [], hs.done, rfl, _, rfl, hu16⟩

set_option maxHeartbeats 400000 in
set_option maxRecDepth 10000 in
theorem do_5 {G : Ghost} {v vb : Value} {old new b : List UInt8} (ho : OpR G v ⟨5, old, new⟩) (hb : Bytes G vb b) (hv : validO ⟨5, old, new⟩ = true) (hl : b.length ≤ 100000000) (hne : old ≠ []) (hol4 : old.length ≤ 4) (hon4 : new.length ≤ 4) (hm : ∃ m : Int, gcell G ⟨0, 0, none⟩ = some (.int .i64 m)) :
    FnOk Tryz.prog 10 [v, vb] G [] fun r G' H' => H' = [] ∧ ∃ u, r = .tuple #[u, .bool (doF ⟨5, old, new⟩ b).isSome] ∧ Bytes G' u ((doF ⟨5, old, new⟩ b).getD []) := by
  obtain ⟨u1, u2, hve, ho1, ho2⟩ := ho
  subst hve
  dsimp only at ho1 ho2
  obtain ⟨A1, c1, rfl, _⟩ := id ho1
  obtain ⟨A2, c2, rfl, _⟩ := id ho2
  obtain ⟨A, cap, rfl, _⟩ := id hb
  obtain ⟨mx, hm⟩ := hm
  have hd : doF ⟨5, old, new⟩ b = some (repF old new 1 0 b) := by unfold doF; rw [if_neg (by simp [hv])]; simp
  refine FnOk.of_T [(0, _), (1, _)] Tryz.func10 rfl Tryz.ntmps10 (by simp) rfl fun w0 hs => ?_
  have hb0 := hb
  have ho10 := ho1
  have ho20 := ho2
  refine T_seq (T_region rfl ?_)
  refine O_s (S_box hs rfl (cs := [_, _, _]) rfl fun b2 _ hs => ?_)
  refine O_y hs (Y_assign rfl ?_)
  refine O_y hs (Y_assign rfl ?_)
  refine O_nil (T_sub [(1, _), (2, _)] ⟨rfl, rfl, trivial⟩ ?_)
  refine T_seq (T_seq (T_region rfl ?_))
  refine O_y hs (Y_ldA 0 Tryz.isAgg24 Tryz.sizeOf24 rfl rfl (vs := [_, _, _]) rfl rfl ?_)
  refine O_s (S_call (H1 := []) hs rfl Tryz.func12 rfl (by kernel_rfl) (valid_ok (o := ⟨5, old, new⟩) ⟨_, _, rfl, ho1, ho2⟩) fun v1 G' H' _ hR hG7 hs => ?_)
  obtain ⟨rfl, rfl⟩ := hR
  replace hs : St _ _ [_] _ := hs
  replace hb := hb.mono hG7
  replace ho1 := ho1.mono hG7
  replace ho2 := ho2.mono hG7
  refine O_y hs (Y_cmpF rfl rfl rfl (by simp [cmpP, hv]) ?_)
  refine O_nil (T_sub [(1, _), (2, _), (8, _)] ⟨rfl, rfl, rfl, trivial⟩ ?_)
  refine T_condF rfl (T_skip ?_)
  refine T_seq (T_drawS [0, 1, 2, 3, 4, 5, 6, 7, 8, 9, 10, 11] hs (by kernel_rfl) ?_)
  replace hs := hs.drew
  refine A_take 1 rfl (by kernel_rfl) rfl hs (Y_fieldAddr FO24_0 rfl (m := 0) rfl ?_)
  refine A_take 2 rfl (by kernel_rfl) rfl hs (Y_ld 0 Tryz.isAgg3 rfl rfl rfl ?_)
  refine A_take 5 rfl (by kernel_rfl) rfl hs (Y_ldA 0 Tryz.isAgg24 Tryz.sizeOf24 rfl rfl (vs := [_, _, _]) rfl rfl ?_)
  refine A_take 6 rfl (by kernel_rfl) rfl hs (Y_move rfl ?_)
  have hle := hs.le
  refine A_only 0 rfl (by kernel_rfl) rfl (S_call (H1 := []) hs rfl Tryz.func28 rfl (by kernel_rfl) (ops_ok) fun v2 G' H' _ hR hG9 hs => ?_)
  obtain ⟨b9, c1_, c2_, c7_, c8_, rfl, rfl, hk1, hk2, hk7, hk8⟩ := hR
  replace hs : St _ _ [_, _] _ := hs
  replace hb := hb.mono hG9
  replace ho1 := ho1.mono hG9
  replace ho2 := ho2.mono hG9
  refine A_moreS hs hle hG9 (List.sublist_cons_self _ _) ?_
  refine A_take 3 rfl (by kernel_rfl) rfl hs (Y_lookupI 0 rfl Tryz.underlying61 Tryz.underlying3 rfl rfl rfl ?_)
  refine A_take 4 rfl (by kernel_rfl) rfl hs (Y_field rfl field_do ?_)
  have hle := hs.le
  refine A_only 7 rfl (by kernel_rfl) rfl (S_callV (args := [_, _]) (lb := []) (H1 := []) hs rfl rfl Tryz.func62 rfl (by kernel_rfl) (repl_1 ⟨_, _, rfl, ho1, ho2⟩ hb hne hol4 hon4 hl ⟨mx, gcell_mono hs.le hm⟩) fun v3 G' H' _ hR hG16 hs => ?_)
  obtain ⟨rfl, u16, rfl, hu16⟩ := hR
  replace hs : St _ _ [_, _] _ := hs
  replace hb := hb.mono hG16
  replace ho1 := ho1.mono hG16
  replace ho2 := ho2.mono hG16
  replace hk1 := hk1.mono hG16
  replace hk2 := hk2.mono hG16
  replace hk7 := hk7.mono hG16
  replace hk8 := hk8.mono hG16
  refine A_moreS hs hle hG16 (List.Sublist.refl _) ?_
  refine A_take 8 rfl (by kernel_rfl) rfl hs (Y_extract rfl rfl ?_)
  refine A_take 9 rfl (by kernel_rfl) rfl hs (Y_extract rfl rfl ?_)
  refine A_take 10 rfl (by kernel_rfl) rfl hs (Y_assign rfl ?_)
  refine A_take 11 rfl (by kernel_rfl) rfl hs (Y_assign rfl ?_)
  refine A_done (by kernel_rfl) (T_sub [(4, _), (5, _)] ⟨rfl, rfl, trivial⟩ ?_)
  refine T_ret ?_
  refine Rt_fin (vs := [_, _]) Tryz.results10 rfl ⟨rfl, rfl, trivial⟩ ?_
  try dsimp only [tup]
  rw [hd]
  exact ⟨_, [], hs.done, rfl, _, rfl, hu16⟩

set_option maxHeartbeats 400000 in
set_option maxRecDepth 10000 in
theorem do_6 {G : Ghost} {v vb : Value} {old new b : List UInt8} (ho : OpR G v ⟨6, old, new⟩) (hb : Bytes G vb b) (hv : validO ⟨6, old, new⟩ = true) (hl : b.length ≤ 100000000) (hne : old ≠ []) (hol4 : old.length ≤ 4) (hon4 : new.length ≤ 4) (hm : ∃ m : Int, gcell G ⟨0, 0, none⟩ = some (.int .i64 m)) :
    FnOk Tryz.prog 10 [v, vb] G [] fun r G' H' => H' = [] ∧ ∃ u, r = .tuple #[u, .bool (doF ⟨6, old, new⟩ b).isSome] ∧ Bytes G' u ((doF ⟨6, old, new⟩ b).getD []) := by
  obtain ⟨u1, u2, hve, ho1, ho2⟩ := ho
  subst hve
  dsimp only at ho1 ho2
  obtain ⟨A1, c1, rfl, _⟩ := id ho1
  obtain ⟨A2, c2, rfl, _⟩ := id ho2
  obtain ⟨A, cap, rfl, _⟩ := id hb
  obtain ⟨mx, hm⟩ := hm
  have hd : doF ⟨6, old, new⟩ b = some (repF old new b.length 0 b) := by unfold doF; rw [if_neg (by simp [hv])]; simp
  refine FnOk.of_T [(0, _), (1, _)] Tryz.func10 rfl Tryz.ntmps10 (by simp) rfl fun w0 hs => ?_
  have hb0 := hb
  have ho10 := ho1
  have ho20 := ho2
  refine T_seq (T_region rfl ?_)
  refine O_s (S_box hs rfl (cs := [_, _, _]) rfl fun b2 _ hs => ?_)
  refine O_y hs (Y_assign rfl ?_)
  refine O_y hs (Y_assign rfl ?_)
  refine O_nil (T_sub [(1, _), (2, _)] ⟨rfl, rfl, trivial⟩ ?_)
  refine T_seq (T_seq (T_region rfl ?_))
  refine O_y hs (Y_ldA 0 Tryz.isAgg24 Tryz.sizeOf24 rfl rfl (vs := [_, _, _]) rfl rfl ?_)
  refine O_s (S_call (H1 := []) hs rfl Tryz.func12 rfl (by kernel_rfl) (valid_ok (o := ⟨6, old, new⟩) ⟨_, _, rfl, ho1, ho2⟩) fun v1 G' H' _ hR hG7 hs => ?_)
  obtain ⟨rfl, rfl⟩ := hR
  replace hs : St _ _ [_] _ := hs
  replace hb := hb.mono hG7
  replace ho1 := ho1.mono hG7
  replace ho2 := ho2.mono hG7
  refine O_y hs (Y_cmpF rfl rfl rfl (by simp [cmpP, hv]) ?_)
  refine O_nil (T_sub [(1, _), (2, _), (8, _)] ⟨rfl, rfl, rfl, trivial⟩ ?_)
  refine T_condF rfl (T_skip ?_)
  refine T_seq (T_drawS [0, 1, 2, 3, 4, 5, 6, 7, 8, 9, 10, 11] hs (by kernel_rfl) ?_)
  replace hs := hs.drew
  refine A_take 1 rfl (by kernel_rfl) rfl hs (Y_fieldAddr FO24_0 rfl (m := 0) rfl ?_)
  refine A_take 2 rfl (by kernel_rfl) rfl hs (Y_ld 0 Tryz.isAgg3 rfl rfl rfl ?_)
  refine A_take 5 rfl (by kernel_rfl) rfl hs (Y_ldA 0 Tryz.isAgg24 Tryz.sizeOf24 rfl rfl (vs := [_, _, _]) rfl rfl ?_)
  refine A_take 6 rfl (by kernel_rfl) rfl hs (Y_move rfl ?_)
  have hle := hs.le
  refine A_only 0 rfl (by kernel_rfl) rfl (S_call (H1 := []) hs rfl Tryz.func28 rfl (by kernel_rfl) (ops_ok) fun v2 G' H' _ hR hG9 hs => ?_)
  obtain ⟨b9, c1_, c2_, c7_, c8_, rfl, rfl, hk1, hk2, hk7, hk8⟩ := hR
  replace hs : St _ _ [_, _] _ := hs
  replace hb := hb.mono hG9
  replace ho1 := ho1.mono hG9
  replace ho2 := ho2.mono hG9
  refine A_moreS hs hle hG9 (List.sublist_cons_self _ _) ?_
  refine A_take 3 rfl (by kernel_rfl) rfl hs (Y_lookupI 0 rfl Tryz.underlying61 Tryz.underlying3 rfl rfl rfl ?_)
  refine A_take 4 rfl (by kernel_rfl) rfl hs (Y_field rfl field_do ?_)
  have hle := hs.le
  refine A_only 7 rfl (by kernel_rfl) rfl (S_callV (args := [_, _]) (lb := []) (H1 := []) hs rfl rfl Tryz.func64 rfl (by kernel_rfl) (repl_a ⟨_, _, rfl, ho1, ho2⟩ hb hne hol4 hon4 hl ⟨mx, gcell_mono hs.le hm⟩) fun v3 G' H' _ hR hG16 hs => ?_)
  obtain ⟨rfl, u16, rfl, hu16⟩ := hR
  replace hs : St _ _ [_, _] _ := hs
  replace hb := hb.mono hG16
  replace ho1 := ho1.mono hG16
  replace ho2 := ho2.mono hG16
  replace hk1 := hk1.mono hG16
  replace hk2 := hk2.mono hG16
  replace hk7 := hk7.mono hG16
  replace hk8 := hk8.mono hG16
  refine A_moreS hs hle hG16 (List.Sublist.refl _) ?_
  refine A_take 8 rfl (by kernel_rfl) rfl hs (Y_extract rfl rfl ?_)
  refine A_take 9 rfl (by kernel_rfl) rfl hs (Y_extract rfl rfl ?_)
  refine A_take 10 rfl (by kernel_rfl) rfl hs (Y_assign rfl ?_)
  refine A_take 11 rfl (by kernel_rfl) rfl hs (Y_assign rfl ?_)
  refine A_done (by kernel_rfl) (T_sub [(4, _), (5, _)] ⟨rfl, rfl, trivial⟩ ?_)
  refine T_ret ?_
  refine Rt_fin (vs := [_, _]) Tryz.results10 rfl ⟨rfl, rfl, trivial⟩ ?_
  try dsimp only [tup]
  rw [hd]
  exact ⟨_, [], hs.done, rfl, _, rfl, hu16⟩

set_option maxHeartbeats 400000 in
set_option maxRecDepth 10000 in
theorem do_7 {G : Ghost} {v vb : Value} {old new b : List UInt8} (ho : OpR G v ⟨7, old, new⟩) (hb : Bytes G vb b) (hv : validO ⟨7, old, new⟩ = true) (hl : b.length ≤ 100000000) :
    FnOk Tryz.prog 10 [v, vb] G [] fun r G' H' => H' = [] ∧ ∃ u, r = .tuple #[u, .bool (doF ⟨7, old, new⟩ b).isSome] ∧ Bytes G' u ((doF ⟨7, old, new⟩ b).getD []) := by
  obtain ⟨u1, u2, hve, ho1, ho2⟩ := ho
  subst hve
  dsimp only at ho1 ho2
  obtain ⟨A1, c1, rfl, _⟩ := id ho1
  obtain ⟨A2, c2, rfl, _⟩ := id ho2
  obtain ⟨A, cap, rfl, _⟩ := id hb
  have hd : doF ⟨7, old, new⟩ b = some (b.filter fun x => !old.contains x) := by unfold doF; rw [if_neg (by simp [hv])]; simp
  refine FnOk.of_T [(0, _), (1, _)] Tryz.func10 rfl Tryz.ntmps10 (by simp) rfl fun w0 hs => ?_
  have hb0 := hb
  have ho10 := ho1
  have ho20 := ho2
  refine T_seq (T_region rfl ?_)
  refine O_s (S_box hs rfl (cs := [_, _, _]) rfl fun b2 _ hs => ?_)
  refine O_y hs (Y_assign rfl ?_)
  refine O_y hs (Y_assign rfl ?_)
  refine O_nil (T_sub [(1, _), (2, _)] ⟨rfl, rfl, trivial⟩ ?_)
  refine T_seq (T_seq (T_region rfl ?_))
  refine O_y hs (Y_ldA 0 Tryz.isAgg24 Tryz.sizeOf24 rfl rfl (vs := [_, _, _]) rfl rfl ?_)
  refine O_s (S_call (H1 := []) hs rfl Tryz.func12 rfl (by kernel_rfl) (valid_ok (o := ⟨7, old, new⟩) ⟨_, _, rfl, ho1, ho2⟩) fun v1 G' H' _ hR hG7 hs => ?_)
  obtain ⟨rfl, rfl⟩ := hR
  replace hs : St _ _ [_] _ := hs
  replace hb := hb.mono hG7
  replace ho1 := ho1.mono hG7
  replace ho2 := ho2.mono hG7
  refine O_y hs (Y_cmpF rfl rfl rfl (by simp [cmpP, hv]) ?_)
  refine O_nil (T_sub [(1, _), (2, _), (8, _)] ⟨rfl, rfl, rfl, trivial⟩ ?_)
  refine T_condF rfl (T_skip ?_)
  refine T_seq (T_drawS [0, 1, 2, 3, 4, 5, 6, 7, 8, 9, 10, 11] hs (by kernel_rfl) ?_)
  replace hs := hs.drew
  refine A_take 1 rfl (by kernel_rfl) rfl hs (Y_fieldAddr FO24_0 rfl (m := 0) rfl ?_)
  refine A_take 2 rfl (by kernel_rfl) rfl hs (Y_ld 0 Tryz.isAgg3 rfl rfl rfl ?_)
  refine A_take 5 rfl (by kernel_rfl) rfl hs (Y_ldA 0 Tryz.isAgg24 Tryz.sizeOf24 rfl rfl (vs := [_, _, _]) rfl rfl ?_)
  refine A_take 6 rfl (by kernel_rfl) rfl hs (Y_move rfl ?_)
  have hle := hs.le
  refine A_only 0 rfl (by kernel_rfl) rfl (S_call (H1 := []) hs rfl Tryz.func28 rfl (by kernel_rfl) (ops_ok) fun v2 G' H' _ hR hG9 hs => ?_)
  obtain ⟨b9, c1_, c2_, c7_, c8_, rfl, rfl, hk1, hk2, hk7, hk8⟩ := hR
  replace hs : St _ _ [_, _] _ := hs
  replace hb := hb.mono hG9
  replace ho1 := ho1.mono hG9
  replace ho2 := ho2.mono hG9
  refine A_moreS hs hle hG9 (List.sublist_cons_self _ _) ?_
  refine A_take 3 rfl (by kernel_rfl) rfl hs (Y_lookupI 0 rfl Tryz.underlying61 Tryz.underlying3 rfl rfl rfl ?_)
  refine A_take 4 rfl (by kernel_rfl) rfl hs (Y_field rfl field_do ?_)
  have hle := hs.le
  refine A_only 7 rfl (by kernel_rfl) rfl (S_callV (args := [_, _]) (lb := [_]) (H1 := []) hs rfl rfl Tryz.func53 rfl (by kernel_rfl) (each_ok ⟨_, _, rfl, ho1, ho2⟩ hb hk7 Tryz.func56 rfl (by kernel_rfl) (fun _ _ _ _ hG hn => drop_step ⟨_, _, rfl, ho1.mono hG, ho2.mono hG⟩ hn) (fun _ _ => by unfold dropS; split <;> simp) (by omega)) fun v3 G' H' _ hR hG16 hs => ?_)
  obtain ⟨rfl, u16, rfl, hu16⟩ := hR
  replace hs : St _ _ [_, _] _ := hs
  replace hb := hb.mono hG16
  replace ho1 := ho1.mono hG16
  replace ho2 := ho2.mono hG16
  replace hk1 := hk1.mono hG16
  replace hk2 := hk2.mono hG16
  replace hk7 := hk7.mono hG16
  replace hk8 := hk8.mono hG16
  refine A_moreS hs hle hG16 (List.Sublist.refl _) ?_
  refine A_take 8 rfl (by kernel_rfl) rfl hs (Y_extract rfl rfl ?_)
  refine A_take 9 rfl (by kernel_rfl) rfl hs (Y_extract rfl rfl ?_)
  refine A_take 10 rfl (by kernel_rfl) rfl hs (Y_assign rfl ?_)
  refine A_take 11 rfl (by kernel_rfl) rfl hs (Y_assign rfl ?_)
  refine A_done (by kernel_rfl) (T_sub [(4, _), (5, _)] ⟨rfl, rfl, trivial⟩ ?_)
  refine T_ret ?_
  refine Rt_fin (vs := [_, _]) Tryz.results10 rfl ⟨rfl, rfl, trivial⟩ ?_
  try dsimp only [tup]
  rw [hd]
  exact ⟨_, [], hs.done, rfl, _, rfl, Bytes.cast (drop_fold old b []) hu16⟩

set_option maxHeartbeats 400000 in
set_option maxRecDepth 10000 in
theorem do_8 {G : Ghost} {v vb : Value} {old new b : List UInt8} (ho : OpR G v ⟨8, old, new⟩) (hb : Bytes G vb b) (hv : validO ⟨8, old, new⟩ = true) (hl : b.length ≤ 100000000) {c : UInt8} (hc : old = [c]) :
    FnOk Tryz.prog 10 [v, vb] G [] fun r G' H' => H' = [] ∧ ∃ u, r = .tuple #[u, .bool (doF ⟨8, old, new⟩ b).isSome] ∧ Bytes G' u ((doF ⟨8, old, new⟩ b).getD []) := by
  obtain ⟨u1, u2, hve, ho1, ho2⟩ := ho
  subst hve
  dsimp only at ho1 ho2
  obtain ⟨A1, c1, rfl, _⟩ := id ho1
  obtain ⟨A2, c2, rfl, _⟩ := id ho2
  obtain ⟨A, cap, rfl, _⟩ := id hb
  have hd : doF ⟨8, old, new⟩ b = some (sqF c false b) := by unfold doF; rw [if_neg (by simp [hv])]; simp [hc]
  refine FnOk.of_T [(0, _), (1, _)] Tryz.func10 rfl Tryz.ntmps10 (by simp) rfl fun w0 hs => ?_
  have hb0 := hb
  have ho10 := ho1
  have ho20 := ho2
  refine T_seq (T_region rfl ?_)
  refine O_s (S_box hs rfl (cs := [_, _, _]) rfl fun b2 _ hs => ?_)
  refine O_y hs (Y_assign rfl ?_)
  refine O_y hs (Y_assign rfl ?_)
  refine O_nil (T_sub [(1, _), (2, _)] ⟨rfl, rfl, trivial⟩ ?_)
  refine T_seq (T_seq (T_region rfl ?_))
  refine O_y hs (Y_ldA 0 Tryz.isAgg24 Tryz.sizeOf24 rfl rfl (vs := [_, _, _]) rfl rfl ?_)
  refine O_s (S_call (H1 := []) hs rfl Tryz.func12 rfl (by kernel_rfl) (valid_ok (o := ⟨8, old, new⟩) ⟨_, _, rfl, ho1, ho2⟩) fun v1 G' H' _ hR hG7 hs => ?_)
  obtain ⟨rfl, rfl⟩ := hR
  replace hs : St _ _ [_] _ := hs
  replace hb := hb.mono hG7
  replace ho1 := ho1.mono hG7
  replace ho2 := ho2.mono hG7
  refine O_y hs (Y_cmpF rfl rfl rfl (by simp [cmpP, hv]) ?_)
  refine O_nil (T_sub [(1, _), (2, _), (8, _)] ⟨rfl, rfl, rfl, trivial⟩ ?_)
  refine T_condF rfl (T_skip ?_)
  refine T_seq (T_drawS [0, 1, 2, 3, 4, 5, 6, 7, 8, 9, 10, 11] hs (by kernel_rfl) ?_)
  replace hs := hs.drew
  refine A_take 1 rfl (by kernel_rfl) rfl hs (Y_fieldAddr FO24_0 rfl (m := 0) rfl ?_)
  refine A_take 2 rfl (by kernel_rfl) rfl hs (Y_ld 0 Tryz.isAgg3 rfl rfl rfl ?_)
  refine A_take 5 rfl (by kernel_rfl) rfl hs (Y_ldA 0 Tryz.isAgg24 Tryz.sizeOf24 rfl rfl (vs := [_, _, _]) rfl rfl ?_)
  refine A_take 6 rfl (by kernel_rfl) rfl hs (Y_move rfl ?_)
  have hle := hs.le
  refine A_only 0 rfl (by kernel_rfl) rfl (S_call (H1 := []) hs rfl Tryz.func28 rfl (by kernel_rfl) (ops_ok) fun v2 G' H' _ hR hG9 hs => ?_)
  obtain ⟨b9, c1_, c2_, c7_, c8_, rfl, rfl, hk1, hk2, hk7, hk8⟩ := hR
  replace hs : St _ _ [_, _] _ := hs
  replace hb := hb.mono hG9
  replace ho1 := ho1.mono hG9
  replace ho2 := ho2.mono hG9
  refine A_moreS hs hle hG9 (List.sublist_cons_self _ _) ?_
  refine A_take 3 rfl (by kernel_rfl) rfl hs (Y_lookupI 0 rfl Tryz.underlying61 Tryz.underlying3 rfl rfl rfl ?_)
  refine A_take 4 rfl (by kernel_rfl) rfl hs (Y_field rfl field_do ?_)
  have hle := hs.le
  refine A_only 7 rfl (by kernel_rfl) rfl (S_callV (args := [_, _]) (lb := [_]) (H1 := []) hs rfl rfl Tryz.func53 rfl (by kernel_rfl) (each_ok ⟨_, _, rfl, ho1, ho2⟩ hb hk8 Tryz.func58 rfl (by kernel_rfl) (fun _ _ _ _ hG hn => sq_step ⟨_, _, rfl, ho1.mono hG, ho2.mono hG⟩ hn hc) (fun _ _ => by unfold sqS; split <;> simp) (by omega)) fun v3 G' H' _ hR hG16 hs => ?_)
  obtain ⟨rfl, u16, rfl, hu16⟩ := hR
  replace hs : St _ _ [_, _] _ := hs
  replace hb := hb.mono hG16
  replace ho1 := ho1.mono hG16
  replace ho2 := ho2.mono hG16
  replace hk1 := hk1.mono hG16
  replace hk2 := hk2.mono hG16
  replace hk7 := hk7.mono hG16
  replace hk8 := hk8.mono hG16
  refine A_moreS hs hle hG16 (List.Sublist.refl _) ?_
  refine A_take 8 rfl (by kernel_rfl) rfl hs (Y_extract rfl rfl ?_)
  refine A_take 9 rfl (by kernel_rfl) rfl hs (Y_extract rfl rfl ?_)
  refine A_take 10 rfl (by kernel_rfl) rfl hs (Y_assign rfl ?_)
  refine A_take 11 rfl (by kernel_rfl) rfl hs (Y_assign rfl ?_)
  refine A_done (by kernel_rfl) (T_sub [(4, _), (5, _)] ⟨rfl, rfl, trivial⟩ ?_)
  refine T_ret ?_
  refine Rt_fin (vs := [_, _]) Tryz.results10 rfl ⟨rfl, rfl, trivial⟩ ?_
  try dsimp only [tup]
  rw [hd]
  exact ⟨_, [], hs.done, rfl, _, rfl, Bytes.cast (sq_fold c b []) hu16⟩

set_option maxHeartbeats 400000 in
set_option maxRecDepth 10000 in
theorem do_bad {G : Ghost} {v vb : Value} {o : OpV} {b : List UInt8} (ho : OpR G v o) (hb : Bytes G vb b) (hv : ¬ validO o = true) :
    FnOk Tryz.prog 10 [v, vb] G [] fun r G' H' => H' = [] ∧ ∃ u, r = .tuple #[u, .bool (doF o b).isSome] ∧ Bytes G' u ((doF o b).getD []) := by
  obtain ⟨u1, u2, rfl, ho1, ho2⟩ := ho
  obtain ⟨A1, c1, rfl, _⟩ := id ho1
  obtain ⟨A2, c2, rfl, _⟩ := id ho2
  obtain ⟨A, cap, rfl, _⟩ := id hb
  have hd : doF o b = none := by unfold doF; rw [if_pos (by simpa using hv)]
  refine FnOk.of_T [(0, _), (1, _)] Tryz.func10 rfl Tryz.ntmps10 (by simp) rfl fun w0 hs => ?_
  refine T_seq (T_region rfl ?_)
  refine O_s (S_box hs rfl (cs := [_, _, _]) rfl fun b2 _ hs => ?_)
  refine O_y hs (Y_assign rfl ?_)
  refine O_y hs (Y_assign rfl ?_)
  refine O_nil (T_sub [(1, _), (2, _)] ⟨rfl, rfl, trivial⟩ ?_)
  refine T_seq (T_seq (T_region rfl ?_))
  refine O_y hs (Y_ldA 0 Tryz.isAgg24 Tryz.sizeOf24 rfl rfl (vs := [_, _, _]) rfl rfl ?_)
  refine O_s (S_call (H1 := []) hs rfl Tryz.func12 rfl (by kernel_rfl) (valid_ok (o := o) ⟨_, _, rfl, ho1, ho2⟩) fun v1 G' H' _ hR hG7 hs => ?_)
  obtain ⟨rfl, rfl⟩ := hR
  replace hs : St _ _ [_] _ := hs
  refine O_y hs (Y_cmpT rfl rfl rfl (by simp [cmpP, hv]) ?_)
  refine O_nil (T_sub [(1, _), (2, _), (8, _)] ⟨rfl, rfl, rfl, trivial⟩ ?_)
  refine T_condT rfl (T_seq (T_region rfl ?_))
  refine O_y hs (Y_assign rfl ?_)
  refine O_y hs (Y_assign rfl ?_)
  refine O_nil (T_sub [(4, _), (5, _)] ⟨rfl, rfl, trivial⟩ ?_)
  refine T_ret ?_
  refine Rt_fin (vs := [_, _]) Tryz.results10 rfl ⟨rfl, rfl, trivial⟩ ?_
  try dsimp only [tup]
  rw [hd]
  exact ⟨_, [], hs.done, rfl, _, rfl, Sl.nil _ _⟩

theorem valid_kinds {o : OpV} (h : validO o = true) : o.kind = 1 ∨ o.kind = 2 ∨ o.kind = 3 ∨ o.kind = 4 ∨ ((o.kind = 5 ∨ o.kind = 6) ∧ o.old ≠ [] ∧ o.old.length ≤ 4 ∧ o.new.length ≤ 4) ∨ o.kind = 7 ∨ (o.kind = 8 ∧ ∃ c, o.old = [c]) := by
  unfold validO sizesF at h
  by_cases h1 : o.kind = 1 ∨ o.kind = 2 ∨ o.kind = 3 ∨ o.kind = 4
  · omega
  · rw [if_neg h1] at h
    by_cases h2 : o.kind = 5 ∨ o.kind = 6
    · rw [if_pos h2] at h
      simp only [decide_eq_true_eq] at h
      have hne : o.old ≠ [] := fun h0 => by rw [h0] at h; simp at h
      exact .inr (.inr (.inr (.inr (.inl ⟨h2, hne, h.2.1, h.2.2⟩))))
    · rw [if_neg h2] at h
      by_cases h3 : o.kind = 7
      · omega
      · rw [if_neg h3] at h
        by_cases h4 : o.kind = 8
        · rw [if_pos h4] at h
          simp only [decide_eq_true_eq] at h
          exact .inr (.inr (.inr (.inr (.inr (.inr ⟨h4, List.length_eq_one_iff.1 (by omega)⟩)))))
        · rw [if_neg h4] at h; cases h
theorem do_ok {G : Ghost} {v vb : Value} {o : OpV} {b : List UInt8} (ho : OpR G v o) (hb : Bytes G vb b) (hl : b.length ≤ 100000000) (hm : ∃ m : Int, gcell G ⟨0, 0, none⟩ = some (.int .i64 m)) :
    FnOk Tryz.prog 10 [v, vb] G [] fun r G' H' => H' = [] ∧ ∃ u, r = .tuple #[u, .bool (doF o b).isSome] ∧ Bytes G' u ((doF o b).getD []) := by
  by_cases hv : validO o = true
  · obtain ⟨k, old, new⟩ := o
    rcases valid_kinds hv with rfl | rfl | rfl | rfl | ⟨rfl | rfl, h1, h2, h3⟩ | rfl | ⟨rfl, c, hc⟩
    · exact do_1 ho hb hv hl
    · exact do_2 ho hb hv hl
    · exact do_3 ho hb hv hl
    · exact do_4 ho hb hv hl
    · exact do_5 ho hb hv hl h1 h2 h3 hm
    · exact do_6 ho hb hv hl h1 h2 h3 hm
    · exact do_7 ho hb hv hl
    · exact do_8 ho hb hv hl hc
  · exact do_bad ho hb hv


end Go.Proofs.YtffbfibpfnlfeaaGreatDoor
