import Derived.Test.YtffbfibpfnlfeaaGreatDoorPlain2
import Derived.Test.YtffbfibpfnlfeaaGreatDoorExWalks4
import Derived.Test.YtffbfibpfnlfeaaGreatDoorProg
import Derived.Test.YtffbfibpfnlfeaaGreatDoorPlain
import Derived.Test.YtffbfibpfnlfeaaGreatDoorShelf
namespace Go.Proofs.YtffbfibpfnlfeaaGreatDoor
open Go Go.Ex Go.RowKit


set_option maxHeartbeats 400000 in
set_option maxRecDepth 10000 in
theorem dig_ok {G : Ghost} {x : UInt8} :
    FnOk Tryz.prog 65 [.int .u8 (x.toNat : Int)] G [] fun r _ H' => H' = [] ∧ r = .int .i64 (digV x) := by
  have hx := x.toNat_lt
  refine FnOk.of_T [(0, _)] Tryz.func65 rfl Tryz.ntmps65 (by simp) rfl fun w0 hs => ?_
  refine T_seq (T_region rfl ?_)
  refine O_y hs (Y_assign rfl ?_)
  refine O_nil (T_sub [(0, _)] ⟨rfl, trivial⟩ ?_)
  refine T_seq (T_seq (T_region rfl ?_))
  refine O_y hs (Y_move rfl ?_)
  refine O_y hs (Y_cmpS rfl rfl rfl (fun h4 => ?_) (fun h4 => ?_))
  · -- h4: True
    dsimp only [cmpP] at h4
    refine O_y hs (Y_move rfl ?_)
    refine O_yy 5 hs rfl rfl (Y_move rfl ?_)
    refine O_yy 5 hs rfl rfl (Y_cmpS rfl rfl rfl (fun h7 => ?_) (fun h7 => ?_))
    · -- h7: True
      dsimp only [cmpP] at h7
      refine O_y hs (Y_pickT rfl rfl ?_)
      refine O_nil (T_sub [(0, _), (8, _)] ⟨rfl, rfl, trivial⟩ ?_)
      refine T_condT rfl (T_seq (T_region rfl ?_))
      refine O_y hs (Y_move rfl ?_)
      refine O_y hs (Y_subW rfl rfl ?_)
      refine O_y hs (Y_conv Tryz.underlying5 Tryz.underlying3 (c := ((x.toNat : Int) - 48)) rfl (by rw [IntKind.wrap_u8, wrap64_eq (by omega)]; omega) ?_)
      refine O_y hs (Y_assign rfl ?_)
      refine O_nil (T_sub [(2, _)] ⟨rfl, trivial⟩ ?_)
      refine T_ret ?_
      refine Rt_fin (vs := [_]) Tryz.results65 rfl ⟨rfl, trivial⟩ ?_
      try dsimp only [tup]
      exact ⟨_, [], hs.done, rfl, congrArg (Value.int .i64) (by rw [dig_all, if_pos (by omega)])⟩
    · -- h7: False
      dsimp only [cmpP] at h7
      refine O_y hs (Y_pickT rfl rfl ?_)
      refine O_nil (T_sub [(0, _), (8, _)] ⟨rfl, rfl, trivial⟩ ?_)
      refine T_condF rfl (T_skip ?_)
      refine T_seq (T_seq (T_region rfl ?_))
      refine O_y hs (Y_move rfl ?_)
      refine O_y hs (Y_cmpS rfl rfl rfl (fun h13 => ?_) (fun h13 => ?_))
      · -- h13: True
        dsimp only [cmpP] at h13
        refine O_y hs (Y_move rfl ?_)
        refine O_yy 14 hs rfl rfl (Y_move rfl ?_)
        refine O_yy 14 hs rfl rfl (Y_cmpS rfl rfl rfl (fun h16 => ?_) (fun h16 => ?_))
        · -- h16: True
          dsimp only [cmpP] at h16
          refine O_y hs (Y_pickT rfl rfl ?_)
          refine O_nil (T_sub [(0, _), (17, _)] ⟨rfl, rfl, trivial⟩ ?_)
          refine T_condT rfl (T_seq (T_region rfl ?_))
          refine O_y hs (Y_move rfl ?_)
          refine O_y hs (Y_subW rfl rfl ?_)
          refine O_y hs (Y_conv Tryz.underlying5 Tryz.underlying3 (c := ((x.toNat : Int) - 97)) rfl (by rw [IntKind.wrap_u8, wrap64_eq (by omega)]; omega) ?_)
          refine O_y hs (Y_add (c := ((x.toNat : Int) - 87)) rfl rfl (by omega) (by omega) ?_)
          refine O_y hs (Y_assign rfl ?_)
          refine O_nil (T_sub [(2, _)] ⟨rfl, trivial⟩ ?_)
          refine T_ret ?_
          refine Rt_fin (vs := [_]) Tryz.results65 rfl ⟨rfl, trivial⟩ ?_
          try dsimp only [tup]
          exact ⟨_, [], hs.done, rfl, congrArg (Value.int .i64) (by rw [dig_all, if_neg (by omega), if_pos (by omega)])⟩
        · -- h16: False
          dsimp only [cmpP] at h16
          refine O_y hs (Y_pickT rfl rfl ?_)
          refine O_nil (T_sub [(0, _), (17, _)] ⟨rfl, rfl, trivial⟩ ?_)
          refine T_condF rfl (T_skip ?_)
          refine T_seq (T_seq (T_region rfl ?_))
          refine O_y hs (Y_move rfl ?_)
          refine O_y hs (Y_cmpS rfl rfl rfl (fun h23 => ?_) (fun h23 => ?_))
          · -- h23: True
            dsimp only [cmpP] at h23
            refine O_y hs (Y_move rfl ?_)
            refine O_yy 24 hs rfl rfl (Y_move rfl ?_)
            refine O_yy 24 hs rfl rfl (Y_cmpS rfl rfl rfl (fun h26 => ?_) (fun h26 => ?_))
            · -- h26: True
              dsimp only [cmpP] at h26
              refine O_y hs (Y_pickT rfl rfl ?_)
              refine O_nil (T_sub [(0, _), (27, _)] ⟨rfl, rfl, trivial⟩ ?_)
              refine T_condT rfl (T_seq (T_region rfl ?_))
              refine O_y hs (Y_move rfl ?_)
              refine O_y hs (Y_subW rfl rfl ?_)
              refine O_y hs (Y_conv Tryz.underlying5 Tryz.underlying3 (c := ((x.toNat : Int) - 65)) rfl (by rw [IntKind.wrap_u8, wrap64_eq (by omega)]; omega) ?_)
              refine O_y hs (Y_add (c := ((x.toNat : Int) - 55)) rfl rfl (by omega) (by omega) ?_)
              refine O_y hs (Y_assign rfl ?_)
              refine O_nil (T_sub [(2, _)] ⟨rfl, trivial⟩ ?_)
              refine T_ret ?_
              refine Rt_fin (vs := [_]) Tryz.results65 rfl ⟨rfl, trivial⟩ ?_
              try dsimp only [tup]
              exact ⟨_, [], hs.done, rfl, congrArg (Value.int .i64) (by rw [dig_all, if_neg (by omega), if_neg (by omega), if_pos (by omega)])⟩
            · -- h26: False
              dsimp only [cmpP] at h26
              refine O_y hs (Y_pickT rfl rfl ?_)
              refine O_nil (T_sub [(0, _), (27, _)] ⟨rfl, rfl, trivial⟩ ?_)
              refine T_condF rfl (T_skip ?_)
              refine T_seq (T_region rfl ?_)
              refine O_y hs (Y_assign rfl ?_)
              refine O_nil (T_sub [(2, _)] ⟨rfl, trivial⟩ ?_)
              refine T_ret ?_
              refine Rt_fin (vs := [_]) Tryz.results65 rfl ⟨rfl, trivial⟩ ?_
              try dsimp only [tup]
              exact ⟨_, [], hs.done, rfl, congrArg (Value.int .i64) (by rw [dig_all, if_neg (by omega), if_neg (by omega), if_neg (by omega)])⟩
          · -- h23: False
            dsimp only [cmpP] at h23
            refine O_y hs (Y_move rfl ?_)
            refine O_no 24 rfl rfl ?_
            refine O_no 24 rfl rfl ?_
            refine O_y hs (Y_pickF rfl rfl ?_)
            refine O_nil (T_sub [(0, _), (27, _)] ⟨rfl, rfl, trivial⟩ ?_)
            refine T_condF rfl (T_skip ?_)
            refine T_seq (T_region rfl ?_)
            refine O_y hs (Y_assign rfl ?_)
            refine O_nil (T_sub [(2, _)] ⟨rfl, trivial⟩ ?_)
            refine T_ret ?_
            refine Rt_fin (vs := [_]) Tryz.results65 rfl ⟨rfl, trivial⟩ ?_
            try dsimp only [tup]
            exact ⟨_, [], hs.done, rfl, congrArg (Value.int .i64) (by rw [dig_all, if_neg (by omega), if_neg (by omega), if_neg (by omega)])⟩
      · -- h13: False
        dsimp only [cmpP] at h13
        refine O_y hs (Y_move rfl ?_)
        refine O_no 14 rfl rfl ?_
        refine O_no 14 rfl rfl ?_
        refine O_y hs (Y_pickF rfl rfl ?_)
        refine O_nil (T_sub [(0, _), (17, _)] ⟨rfl, rfl, trivial⟩ ?_)
        refine T_condF rfl (T_skip ?_)
        refine T_seq (T_seq (T_region rfl ?_))
        refine O_y hs (Y_move rfl ?_)
        refine O_y hs (Y_cmpS rfl rfl rfl (fun h23 => ?_) (fun h23 => ?_))
        · -- h23: True
          dsimp only [cmpP] at h23
          refine O_y hs (Y_move rfl ?_)
          refine O_yy 24 hs rfl rfl (Y_move rfl ?_)
          refine O_yy 24 hs rfl rfl (Y_cmpS rfl rfl rfl (fun h26 => ?_) (fun h26 => ?_))
          · -- h26: True
            dsimp only [cmpP] at h26
            refine O_y hs (Y_pickT rfl rfl ?_)
            refine O_nil (T_sub [(0, _), (27, _)] ⟨rfl, rfl, trivial⟩ ?_)
            refine T_condT rfl (T_seq (T_region rfl ?_))
            refine O_y hs (Y_move rfl ?_)
            refine O_y hs (Y_subW rfl rfl ?_)
            refine O_y hs (Y_conv Tryz.underlying5 Tryz.underlying3 (c := ((x.toNat : Int) - 65)) rfl (by rw [IntKind.wrap_u8, wrap64_eq (by omega)]; omega) ?_)
            refine O_y hs (Y_add (c := ((x.toNat : Int) - 55)) rfl rfl (by omega) (by omega) ?_)
            refine O_y hs (Y_assign rfl ?_)
            refine O_nil (T_sub [(2, _)] ⟨rfl, trivial⟩ ?_)
            refine T_ret ?_
            refine Rt_fin (vs := [_]) Tryz.results65 rfl ⟨rfl, trivial⟩ ?_
            try dsimp only [tup]
            exact ⟨_, [], hs.done, rfl, congrArg (Value.int .i64) (by rw [dig_all, if_neg (by omega), if_neg (by omega), if_pos (by omega)])⟩
          · -- h26: False
            dsimp only [cmpP] at h26
            refine O_y hs (Y_pickT rfl rfl ?_)
            refine O_nil (T_sub [(0, _), (27, _)] ⟨rfl, rfl, trivial⟩ ?_)
            refine T_condF rfl (T_skip ?_)
            refine T_seq (T_region rfl ?_)
            refine O_y hs (Y_assign rfl ?_)
            refine O_nil (T_sub [(2, _)] ⟨rfl, trivial⟩ ?_)
            refine T_ret ?_
            refine Rt_fin (vs := [_]) Tryz.results65 rfl ⟨rfl, trivial⟩ ?_
            try dsimp only [tup]
            exact ⟨_, [], hs.done, rfl, congrArg (Value.int .i64) (by rw [dig_all, if_neg (by omega), if_neg (by omega), if_neg (by omega)])⟩
        · -- h23: False
          dsimp only [cmpP] at h23
          refine O_y hs (Y_move rfl ?_)
          refine O_no 24 rfl rfl ?_
          refine O_no 24 rfl rfl ?_
          refine O_y hs (Y_pickF rfl rfl ?_)
          refine O_nil (T_sub [(0, _), (27, _)] ⟨rfl, rfl, trivial⟩ ?_)
          refine T_condF rfl (T_skip ?_)
          refine T_seq (T_region rfl ?_)
          refine O_y hs (Y_assign rfl ?_)
          refine O_nil (T_sub [(2, _)] ⟨rfl, trivial⟩ ?_)
          refine T_ret ?_
          refine Rt_fin (vs := [_]) Tryz.results65 rfl ⟨rfl, trivial⟩ ?_
          try dsimp only [tup]
          exact ⟨_, [], hs.done, rfl, congrArg (Value.int .i64) (by rw [dig_all, if_neg (by omega), if_neg (by omega), if_neg (by omega)])⟩
  · -- h4: False
    dsimp only [cmpP] at h4
    refine O_y hs (Y_move rfl ?_)
    refine O_no 5 rfl rfl ?_
    refine O_no 5 rfl rfl ?_
    refine O_y hs (Y_pickF rfl rfl ?_)
    refine O_nil (T_sub [(0, _), (8, _)] ⟨rfl, rfl, trivial⟩ ?_)
    refine T_condF rfl (T_skip ?_)
    refine T_seq (T_seq (T_region rfl ?_))
    refine O_y hs (Y_move rfl ?_)
    refine O_y hs (Y_cmpS rfl rfl rfl (fun h13 => ?_) (fun h13 => ?_))
    · -- h13: True
      dsimp only [cmpP] at h13
      refine O_y hs (Y_move rfl ?_)
      refine O_yy 14 hs rfl rfl (Y_move rfl ?_)
      refine O_yy 14 hs rfl rfl (Y_cmpS rfl rfl rfl (fun h16 => ?_) (fun h16 => ?_))
      · -- h16: True
        dsimp only [cmpP] at h16
        refine O_y hs (Y_pickT rfl rfl ?_)
        refine O_nil (T_sub [(0, _), (17, _)] ⟨rfl, rfl, trivial⟩ ?_)
        refine T_condT rfl (T_seq (T_region rfl ?_))
        refine O_y hs (Y_move rfl ?_)
        refine O_y hs (Y_subW rfl rfl ?_)
        refine O_y hs (Y_conv Tryz.underlying5 Tryz.underlying3 (c := ((x.toNat : Int) - 97)) rfl (by rw [IntKind.wrap_u8, wrap64_eq (by omega)]; omega) ?_)
        refine O_y hs (Y_add (c := ((x.toNat : Int) - 87)) rfl rfl (by omega) (by omega) ?_)
        refine O_y hs (Y_assign rfl ?_)
        refine O_nil (T_sub [(2, _)] ⟨rfl, trivial⟩ ?_)
        refine T_ret ?_
        refine Rt_fin (vs := [_]) Tryz.results65 rfl ⟨rfl, trivial⟩ ?_
        try dsimp only [tup]
        exact ⟨_, [], hs.done, rfl, congrArg (Value.int .i64) (by rw [dig_all, if_neg (by omega), if_pos (by omega)])⟩
      · -- h16: False
        dsimp only [cmpP] at h16
        refine O_y hs (Y_pickT rfl rfl ?_)
        refine O_nil (T_sub [(0, _), (17, _)] ⟨rfl, rfl, trivial⟩ ?_)
        refine T_condF rfl (T_skip ?_)
        refine T_seq (T_seq (T_region rfl ?_))
        refine O_y hs (Y_move rfl ?_)
        refine O_y hs (Y_cmpS rfl rfl rfl (fun h23 => ?_) (fun h23 => ?_))
        · -- h23: True
          dsimp only [cmpP] at h23
          refine O_y hs (Y_move rfl ?_)
          refine O_yy 24 hs rfl rfl (Y_move rfl ?_)
          refine O_yy 24 hs rfl rfl (Y_cmpS rfl rfl rfl (fun h26 => ?_) (fun h26 => ?_))
          · -- h26: True
            dsimp only [cmpP] at h26
            refine O_y hs (Y_pickT rfl rfl ?_)
            refine O_nil (T_sub [(0, _), (27, _)] ⟨rfl, rfl, trivial⟩ ?_)
            refine T_condT rfl (T_seq (T_region rfl ?_))
            refine O_y hs (Y_move rfl ?_)
            refine O_y hs (Y_subW rfl rfl ?_)
            refine O_y hs (Y_conv Tryz.underlying5 Tryz.underlying3 (c := ((x.toNat : Int) - 65)) rfl (by rw [IntKind.wrap_u8, wrap64_eq (by omega)]; omega) ?_)
            refine O_y hs (Y_add (c := ((x.toNat : Int) - 55)) rfl rfl (by omega) (by omega) ?_)
            refine O_y hs (Y_assign rfl ?_)
            refine O_nil (T_sub [(2, _)] ⟨rfl, trivial⟩ ?_)
            refine T_ret ?_
            refine Rt_fin (vs := [_]) Tryz.results65 rfl ⟨rfl, trivial⟩ ?_
            try dsimp only [tup]
            exact ⟨_, [], hs.done, rfl, congrArg (Value.int .i64) (by rw [dig_all, if_neg (by omega), if_neg (by omega), if_pos (by omega)])⟩
          · -- h26: False
            dsimp only [cmpP] at h26
            refine O_y hs (Y_pickT rfl rfl ?_)
            refine O_nil (T_sub [(0, _), (27, _)] ⟨rfl, rfl, trivial⟩ ?_)
            refine T_condF rfl (T_skip ?_)
            refine T_seq (T_region rfl ?_)
            refine O_y hs (Y_assign rfl ?_)
            refine O_nil (T_sub [(2, _)] ⟨rfl, trivial⟩ ?_)
            refine T_ret ?_
            refine Rt_fin (vs := [_]) Tryz.results65 rfl ⟨rfl, trivial⟩ ?_
            try dsimp only [tup]
            exact ⟨_, [], hs.done, rfl, congrArg (Value.int .i64) (by rw [dig_all, if_neg (by omega), if_neg (by omega), if_neg (by omega)])⟩
        · -- h23: False
          dsimp only [cmpP] at h23
          refine O_y hs (Y_move rfl ?_)
          refine O_no 24 rfl rfl ?_
          refine O_no 24 rfl rfl ?_
          refine O_y hs (Y_pickF rfl rfl ?_)
          refine O_nil (T_sub [(0, _), (27, _)] ⟨rfl, rfl, trivial⟩ ?_)
          refine T_condF rfl (T_skip ?_)
          refine T_seq (T_region rfl ?_)
          refine O_y hs (Y_assign rfl ?_)
          refine O_nil (T_sub [(2, _)] ⟨rfl, trivial⟩ ?_)
          refine T_ret ?_
          refine Rt_fin (vs := [_]) Tryz.results65 rfl ⟨rfl, trivial⟩ ?_
          try dsimp only [tup]
          exact ⟨_, [], hs.done, rfl, congrArg (Value.int .i64) (by rw [dig_all, if_neg (by omega), if_neg (by omega), if_neg (by omega)])⟩
    · -- h13: False
      dsimp only [cmpP] at h13
      refine O_y hs (Y_move rfl ?_)
      refine O_no 14 rfl rfl ?_
      refine O_no 14 rfl rfl ?_
      refine O_y hs (Y_pickF rfl rfl ?_)
      refine O_nil (T_sub [(0, _), (17, _)] ⟨rfl, rfl, trivial⟩ ?_)
      refine T_condF rfl (T_skip ?_)
      refine T_seq (T_seq (T_region rfl ?_))
      refine O_y hs (Y_move rfl ?_)
      refine O_y hs (Y_cmpS rfl rfl rfl (fun h23 => ?_) (fun h23 => ?_))
      · -- h23: True
        dsimp only [cmpP] at h23
        refine O_y hs (Y_move rfl ?_)
        refine O_yy 24 hs rfl rfl (Y_move rfl ?_)
        refine O_yy 24 hs rfl rfl (Y_cmpS rfl rfl rfl (fun h26 => ?_) (fun h26 => ?_))
        · -- h26: True
          dsimp only [cmpP] at h26
          refine O_y hs (Y_pickT rfl rfl ?_)
          refine O_nil (T_sub [(0, _), (27, _)] ⟨rfl, rfl, trivial⟩ ?_)
          refine T_condT rfl (T_seq (T_region rfl ?_))
          refine O_y hs (Y_move rfl ?_)
          refine O_y hs (Y_subW rfl rfl ?_)
          refine O_y hs (Y_conv Tryz.underlying5 Tryz.underlying3 (c := ((x.toNat : Int) - 65)) rfl (by rw [IntKind.wrap_u8, wrap64_eq (by omega)]; omega) ?_)
          refine O_y hs (Y_add (c := ((x.toNat : Int) - 55)) rfl rfl (by omega) (by omega) ?_)
          refine O_y hs (Y_assign rfl ?_)
          refine O_nil (T_sub [(2, _)] ⟨rfl, trivial⟩ ?_)
          refine T_ret ?_
          refine Rt_fin (vs := [_]) Tryz.results65 rfl ⟨rfl, trivial⟩ ?_
          try dsimp only [tup]
          exact ⟨_, [], hs.done, rfl, congrArg (Value.int .i64) (by rw [dig_all, if_neg (by omega), if_neg (by omega), if_pos (by omega)])⟩
        · -- h26: False
          dsimp only [cmpP] at h26
          refine O_y hs (Y_pickT rfl rfl ?_)
          refine O_nil (T_sub [(0, _), (27, _)] ⟨rfl, rfl, trivial⟩ ?_)
          refine T_condF rfl (T_skip ?_)
          refine T_seq (T_region rfl ?_)
          refine O_y hs (Y_assign rfl ?_)
          refine O_nil (T_sub [(2, _)] ⟨rfl, trivial⟩ ?_)
          refine T_ret ?_
          refine Rt_fin (vs := [_]) Tryz.results65 rfl ⟨rfl, trivial⟩ ?_
          try dsimp only [tup]
          exact ⟨_, [], hs.done, rfl, congrArg (Value.int .i64) (by rw [dig_all, if_neg (by omega), if_neg (by omega), if_neg (by omega)])⟩
      · -- h23: False
        dsimp only [cmpP] at h23
        refine O_y hs (Y_move rfl ?_)
        refine O_no 24 rfl rfl ?_
        refine O_no 24 rfl rfl ?_
        refine O_y hs (Y_pickF rfl rfl ?_)
        refine O_nil (T_sub [(0, _), (27, _)] ⟨rfl, rfl, trivial⟩ ?_)
        refine T_condF rfl (T_skip ?_)
        refine T_seq (T_region rfl ?_)
        refine O_y hs (Y_assign rfl ?_)
        refine O_nil (T_sub [(2, _)] ⟨rfl, trivial⟩ ?_)
        refine T_ret ?_
        refine Rt_fin (vs := [_]) Tryz.results65 rfl ⟨rfl, trivial⟩ ?_
        try dsimp only [tup]
        exact ⟨_, [], hs.done, rfl, congrArg (Value.int .i64) (by rw [dig_all, if_neg (by omega), if_neg (by omega), if_neg (by omega)])⟩

set_option maxHeartbeats 400000 in
set_option maxRecDepth 10000 in
theorem rvalid_ok {G : Ghost} {v : Value} {o : OpV} (ho : OpR G v o) :
    FnOk Tryz.prog 13 [v] G [] fun r _ H' => H' = [] ∧ r = .int .i64 (if validO o = true then 0 else 1) := by
  obtain ⟨u1, u2, rfl, ho1, ho2⟩ := ho
  obtain ⟨A1, c1, rfl, _⟩ := id ho1
  obtain ⟨A2, c2, rfl, _⟩ := id ho2
  refine FnOk.of_T [(0, _)] Tryz.func13 rfl Tryz.ntmps13 (by simp) rfl fun w0 hs => ?_
  refine T_seq (T_region rfl ?_)
  refine O_s (S_box hs rfl (cs := [_, _, _]) rfl fun b1 _ hs => ?_)
  refine O_y hs (Y_assign rfl ?_)
  refine O_nil (T_sub [(1, _)] ⟨rfl, trivial⟩ ?_)
  refine T_seq (T_region rfl ?_)
  refine O_y hs (Y_assign rfl ?_)
  refine O_nil (T_sub [(1, _), (3, _)] ⟨rfl, rfl, trivial⟩ ?_)
  refine T_seq (T_region rfl ?_)
  refine O_y hs (Y_assign rfl ?_)
  refine O_nil (T_sub [(1, _), (3, _), (4, _)] ⟨rfl, rfl, rfl, trivial⟩ ?_)
  refine T_seq (T_region rfl ?_)
  refine O_y hs (Y_assign rfl ?_)
  refine O_nil (T_sub [(1, _), (3, _), (4, _), (5, _)] ⟨rfl, rfl, rfl, rfl, trivial⟩ ?_)
  refine T_seq (T_seq (T_region rfl ?_))
  refine O_y hs (Y_fieldAddr FO24_0 rfl (m := 0) rfl ?_)
  refine O_y hs (Y_ld 0 Tryz.isAgg3 rfl rfl rfl ?_)
  refine O_nil (T_sub [(1, _), (3, _), (4, _), (5, _), (7, _)] ⟨rfl, rfl, rfl, rfl, rfl, trivial⟩ ?_)
  refine T_block (T_seq (T_seq (T_region rfl ?_)))
  refine O_y hs (Y_cmpS rfl rfl rfl (fun h9 => ?_) (fun h9 => ?_))
  · -- h9: True
    dsimp only [cmpP] at h9
    refine O_y hs (Y_assign rfl ?_)
    refine O_nil (T_sub [(1, _), (3, _), (4, _), (5, _), (7, _), (8, _)] ⟨rfl, rfl, rfl, rfl, rfl, rfl, trivial⟩ ?_)
    refine T_condT rfl (T_skip ?_)
    refine T_condT rfl (T_skip ?_)
    refine T_seq (T_seq (T_region rfl ?_))
    refine O_y hs (Y_fieldAddr FO24_1 rfl (m := 1) rfl ?_)
    refine O_y hs (Y_ld 0 Tryz.isAgg22 rfl rfl rfl ?_)
    refine O_y hs (Y_len Tryz.underlying22 rfl ?_)
    refine O_y hs (Y_move rfl ?_)
    refine O_y hs (Y_cmpS rfl rfl rfl (fun h24 => ?_) (fun h24 => ?_))
    · -- h24: True
      dsimp only [cmpP] at h24
      refine O_y hs (Y_move rfl ?_)
      refine O_no 25 rfl rfl ?_
      refine O_no 25 rfl rfl ?_
      refine O_no 25 rfl rfl ?_
      refine O_no 25 rfl rfl ?_
      refine O_no 25 rfl rfl ?_
      refine O_y hs (Y_pickT rfl rfl ?_)
      refine O_y hs (Y_move rfl ?_)
      refine O_no 32 rfl rfl ?_
      refine O_no 32 rfl rfl ?_
      refine O_no 32 rfl rfl ?_
      refine O_no 32 rfl rfl ?_
      refine O_no 32 rfl rfl ?_
      refine O_y hs (Y_pickT rfl rfl ?_)
      refine O_nil (T_sub [(38, _)] ⟨rfl, trivial⟩ ?_)
      refine T_condT rfl (T_seq (T_region rfl ?_))
      refine O_y hs (Y_assign rfl ?_)
      refine O_nil (T_sub [(2, _)] ⟨rfl, trivial⟩ ?_)
      refine T_ret ?_
      refine Rt_fin (vs := [_]) Tryz.results13 rfl ⟨rfl, trivial⟩ ?_
      try dsimp only [tup]
      have hz : sizesF o.kind = some (0, 0, 0) := by unfold sizesF; rw [if_pos (by omega)]
      exact ⟨_, [], hs.done, rfl, congrArg (Value.int .i64) (if_neg (validO_f hz (by omega))).symm⟩
    · -- h24: False
      dsimp only [cmpP] at h24
      refine O_y hs (Y_move rfl ?_)
      refine O_yy 25 hs rfl rfl (Y_fieldAddr FO24_1 rfl (m := 1) rfl ?_)
      refine O_yy 25 hs rfl rfl (Y_ld 0 Tryz.isAgg22 rfl rfl rfl ?_)
      refine O_yy 25 hs rfl rfl (Y_len Tryz.underlying22 rfl ?_)
      refine O_yy 25 hs rfl rfl (Y_move rfl ?_)
      refine O_yy 25 hs rfl rfl (Y_cmpS rfl rfl rfl (fun h30 => ?_) (fun h30 => ?_))
      · -- h30: True
        dsimp only [cmpP] at h30
        refine O_y hs (Y_pickF rfl rfl ?_)
        refine O_y hs (Y_move rfl ?_)
        refine O_no 32 rfl rfl ?_
        refine O_no 32 rfl rfl ?_
        refine O_no 32 rfl rfl ?_
        refine O_no 32 rfl rfl ?_
        refine O_no 32 rfl rfl ?_
        refine O_y hs (Y_pickT rfl rfl ?_)
        refine O_nil (T_sub [(38, _)] ⟨rfl, trivial⟩ ?_)
        refine T_condT rfl (T_seq (T_region rfl ?_))
        refine O_y hs (Y_assign rfl ?_)
        refine O_nil (T_sub [(2, _)] ⟨rfl, trivial⟩ ?_)
        refine T_ret ?_
        refine Rt_fin (vs := [_]) Tryz.results13 rfl ⟨rfl, trivial⟩ ?_
        try dsimp only [tup]
        have hz : sizesF o.kind = some (0, 0, 0) := by unfold sizesF; rw [if_pos (by omega)]
        exact ⟨_, [], hs.done, rfl, congrArg (Value.int .i64) (if_neg (validO_f hz (by omega))).symm⟩
      · -- h30: False
        dsimp only [cmpP] at h30
        refine O_y hs (Y_pickF rfl rfl ?_)
        refine O_y hs (Y_move rfl ?_)
        refine O_yy 32 hs rfl rfl (Y_fieldAddr FO24_2 rfl (m := 2) rfl ?_)
        refine O_yy 32 hs rfl rfl (Y_ld 0 Tryz.isAgg22 rfl rfl rfl ?_)
        refine O_yy 32 hs rfl rfl (Y_len Tryz.underlying22 rfl ?_)
        refine O_yy 32 hs rfl rfl (Y_move rfl ?_)
        refine O_yy 32 hs rfl rfl (Y_cmpS rfl rfl rfl (fun h37 => ?_) (fun h37 => ?_))
        · -- h37: True
          dsimp only [cmpP] at h37
          refine O_y hs (Y_pickF rfl rfl ?_)
          refine O_nil (T_sub [(38, _)] ⟨rfl, trivial⟩ ?_)
          refine T_condT rfl (T_seq (T_region rfl ?_))
          refine O_y hs (Y_assign rfl ?_)
          refine O_nil (T_sub [(2, _)] ⟨rfl, trivial⟩ ?_)
          refine T_ret ?_
          refine Rt_fin (vs := [_]) Tryz.results13 rfl ⟨rfl, trivial⟩ ?_
          try dsimp only [tup]
          have hz : sizesF o.kind = some (0, 0, 0) := by unfold sizesF; rw [if_pos (by omega)]
          exact ⟨_, [], hs.done, rfl, congrArg (Value.int .i64) (if_neg (validO_f hz (by omega))).symm⟩
        · -- h37: False
          dsimp only [cmpP] at h37
          refine O_y hs (Y_pickF rfl rfl ?_)
          refine O_nil (T_sub [(38, _)] ⟨rfl, trivial⟩ ?_)
          refine T_condF rfl (T_skip ?_)
          refine T_seq (T_region rfl ?_)
          refine O_y hs (Y_assign rfl ?_)
          refine O_nil (T_sub [(2, _)] ⟨rfl, trivial⟩ ?_)
          refine T_ret ?_
          refine Rt_fin (vs := [_]) Tryz.results13 rfl ⟨rfl, trivial⟩ ?_
          try dsimp only [tup]
          have hz : sizesF o.kind = some (0, 0, 0) := by unfold sizesF; rw [if_pos (by omega)]
          exact ⟨_, [], hs.done, rfl, congrArg (Value.int .i64) (if_pos (validO_t hz (by omega))).symm⟩
  · -- h9: False
    dsimp only [cmpP] at h9
    refine O_y hs (Y_assign rfl ?_)
    refine O_nil (T_sub [(1, _), (3, _), (4, _), (5, _), (7, _), (8, _)] ⟨rfl, rfl, rfl, rfl, rfl, rfl, trivial⟩ ?_)
    refine T_condF rfl (T_seq (T_region rfl ?_))
    refine O_y hs (Y_cmpS rfl rfl rfl (fun h10 => ?_) (fun h10 => ?_))
    · -- h10: True
      dsimp only [cmpP] at h10
      refine O_y hs (Y_assign rfl ?_)
      refine O_nil (T_sub [(1, _), (3, _), (4, _), (5, _), (7, _), (8, _)] ⟨rfl, rfl, rfl, rfl, rfl, rfl, trivial⟩ ?_)
      refine T_condT rfl (T_skip ?_)
      refine T_condT rfl (T_skip ?_)
      refine T_seq (T_seq (T_region rfl ?_))
      refine O_y hs (Y_fieldAddr FO24_1 rfl (m := 1) rfl ?_)
      refine O_y hs (Y_ld 0 Tryz.isAgg22 rfl rfl rfl ?_)
      refine O_y hs (Y_len Tryz.underlying22 rfl ?_)
      refine O_y hs (Y_move rfl ?_)
      refine O_y hs (Y_cmpS rfl rfl rfl (fun h24 => ?_) (fun h24 => ?_))
      · -- h24: True
        dsimp only [cmpP] at h24
        refine O_y hs (Y_move rfl ?_)
        refine O_no 25 rfl rfl ?_
        refine O_no 25 rfl rfl ?_
        refine O_no 25 rfl rfl ?_
        refine O_no 25 rfl rfl ?_
        refine O_no 25 rfl rfl ?_
        refine O_y hs (Y_pickT rfl rfl ?_)
        refine O_y hs (Y_move rfl ?_)
        refine O_no 32 rfl rfl ?_
        refine O_no 32 rfl rfl ?_
        refine O_no 32 rfl rfl ?_
        refine O_no 32 rfl rfl ?_
        refine O_no 32 rfl rfl ?_
        refine O_y hs (Y_pickT rfl rfl ?_)
        refine O_nil (T_sub [(38, _)] ⟨rfl, trivial⟩ ?_)
        refine T_condT rfl (T_seq (T_region rfl ?_))
        refine O_y hs (Y_assign rfl ?_)
        refine O_nil (T_sub [(2, _)] ⟨rfl, trivial⟩ ?_)
        refine T_ret ?_
        refine Rt_fin (vs := [_]) Tryz.results13 rfl ⟨rfl, trivial⟩ ?_
        try dsimp only [tup]
        have hz : sizesF o.kind = some (0, 0, 0) := by unfold sizesF; rw [if_pos (by omega)]
        exact ⟨_, [], hs.done, rfl, congrArg (Value.int .i64) (if_neg (validO_f hz (by omega))).symm⟩
      · -- h24: False
        dsimp only [cmpP] at h24
        refine O_y hs (Y_move rfl ?_)
        refine O_yy 25 hs rfl rfl (Y_fieldAddr FO24_1 rfl (m := 1) rfl ?_)
        refine O_yy 25 hs rfl rfl (Y_ld 0 Tryz.isAgg22 rfl rfl rfl ?_)
        refine O_yy 25 hs rfl rfl (Y_len Tryz.underlying22 rfl ?_)
        refine O_yy 25 hs rfl rfl (Y_move rfl ?_)
        refine O_yy 25 hs rfl rfl (Y_cmpS rfl rfl rfl (fun h30 => ?_) (fun h30 => ?_))
        · -- h30: True
          dsimp only [cmpP] at h30
          refine O_y hs (Y_pickF rfl rfl ?_)
          refine O_y hs (Y_move rfl ?_)
          refine O_no 32 rfl rfl ?_
          refine O_no 32 rfl rfl ?_
          refine O_no 32 rfl rfl ?_
          refine O_no 32 rfl rfl ?_
          refine O_no 32 rfl rfl ?_
          refine O_y hs (Y_pickT rfl rfl ?_)
          refine O_nil (T_sub [(38, _)] ⟨rfl, trivial⟩ ?_)
          refine T_condT rfl (T_seq (T_region rfl ?_))
          refine O_y hs (Y_assign rfl ?_)
          refine O_nil (T_sub [(2, _)] ⟨rfl, trivial⟩ ?_)
          refine T_ret ?_
          refine Rt_fin (vs := [_]) Tryz.results13 rfl ⟨rfl, trivial⟩ ?_
          try dsimp only [tup]
          have hz : sizesF o.kind = some (0, 0, 0) := by unfold sizesF; rw [if_pos (by omega)]
          exact ⟨_, [], hs.done, rfl, congrArg (Value.int .i64) (if_neg (validO_f hz (by omega))).symm⟩
        · -- h30: False
          dsimp only [cmpP] at h30
          refine O_y hs (Y_pickF rfl rfl ?_)
          refine O_y hs (Y_move rfl ?_)
          refine O_yy 32 hs rfl rfl (Y_fieldAddr FO24_2 rfl (m := 2) rfl ?_)
          refine O_yy 32 hs rfl rfl (Y_ld 0 Tryz.isAgg22 rfl rfl rfl ?_)
          refine O_yy 32 hs rfl rfl (Y_len Tryz.underlying22 rfl ?_)
          refine O_yy 32 hs rfl rfl (Y_move rfl ?_)
          refine O_yy 32 hs rfl rfl (Y_cmpS rfl rfl rfl (fun h37 => ?_) (fun h37 => ?_))
          · -- h37: True
            dsimp only [cmpP] at h37
            refine O_y hs (Y_pickF rfl rfl ?_)
            refine O_nil (T_sub [(38, _)] ⟨rfl, trivial⟩ ?_)
            refine T_condT rfl (T_seq (T_region rfl ?_))
            refine O_y hs (Y_assign rfl ?_)
            refine O_nil (T_sub [(2, _)] ⟨rfl, trivial⟩ ?_)
            refine T_ret ?_
            refine Rt_fin (vs := [_]) Tryz.results13 rfl ⟨rfl, trivial⟩ ?_
            try dsimp only [tup]
            have hz : sizesF o.kind = some (0, 0, 0) := by unfold sizesF; rw [if_pos (by omega)]
            exact ⟨_, [], hs.done, rfl, congrArg (Value.int .i64) (if_neg (validO_f hz (by omega))).symm⟩
          · -- h37: False
            dsimp only [cmpP] at h37
            refine O_y hs (Y_pickF rfl rfl ?_)
            refine O_nil (T_sub [(38, _)] ⟨rfl, trivial⟩ ?_)
            refine T_condF rfl (T_skip ?_)
            refine T_seq (T_region rfl ?_)
            refine O_y hs (Y_assign rfl ?_)
            refine O_nil (T_sub [(2, _)] ⟨rfl, trivial⟩ ?_)
            refine T_ret ?_
            refine Rt_fin (vs := [_]) Tryz.results13 rfl ⟨rfl, trivial⟩ ?_
            try dsimp only [tup]
            have hz : sizesF o.kind = some (0, 0, 0) := by unfold sizesF; rw [if_pos (by omega)]
            exact ⟨_, [], hs.done, rfl, congrArg (Value.int .i64) (if_pos (validO_t hz (by omega))).symm⟩
    · -- h10: False
      dsimp only [cmpP] at h10
      refine O_y hs (Y_assign rfl ?_)
      refine O_nil (T_sub [(1, _), (3, _), (4, _), (5, _), (7, _), (8, _)] ⟨rfl, rfl, rfl, rfl, rfl, rfl, trivial⟩ ?_)
      refine T_condF rfl (T_seq (T_region rfl ?_))
      refine O_y hs (Y_cmpS rfl rfl rfl (fun h11 => ?_) (fun h11 => ?_))
      · -- h11: True
        dsimp only [cmpP] at h11
        refine O_y hs (Y_assign rfl ?_)
        refine O_nil (T_sub [(1, _), (3, _), (4, _), (5, _), (7, _), (8, _)] ⟨rfl, rfl, rfl, rfl, rfl, rfl, trivial⟩ ?_)
        refine T_condT rfl (T_skip ?_)
        refine T_condT rfl (T_skip ?_)
        refine T_seq (T_seq (T_region rfl ?_))
        refine O_y hs (Y_fieldAddr FO24_1 rfl (m := 1) rfl ?_)
        refine O_y hs (Y_ld 0 Tryz.isAgg22 rfl rfl rfl ?_)
        refine O_y hs (Y_len Tryz.underlying22 rfl ?_)
        refine O_y hs (Y_move rfl ?_)
        refine O_y hs (Y_cmpS rfl rfl rfl (fun h24 => ?_) (fun h24 => ?_))
        · -- h24: True
          dsimp only [cmpP] at h24
          refine O_y hs (Y_move rfl ?_)
          refine O_no 25 rfl rfl ?_
          refine O_no 25 rfl rfl ?_
          refine O_no 25 rfl rfl ?_
          refine O_no 25 rfl rfl ?_
          refine O_no 25 rfl rfl ?_
          refine O_y hs (Y_pickT rfl rfl ?_)
          refine O_y hs (Y_move rfl ?_)
          refine O_no 32 rfl rfl ?_
          refine O_no 32 rfl rfl ?_
          refine O_no 32 rfl rfl ?_
          refine O_no 32 rfl rfl ?_
          refine O_no 32 rfl rfl ?_
          refine O_y hs (Y_pickT rfl rfl ?_)
          refine O_nil (T_sub [(38, _)] ⟨rfl, trivial⟩ ?_)
          refine T_condT rfl (T_seq (T_region rfl ?_))
          refine O_y hs (Y_assign rfl ?_)
          refine O_nil (T_sub [(2, _)] ⟨rfl, trivial⟩ ?_)
          refine T_ret ?_
          refine Rt_fin (vs := [_]) Tryz.results13 rfl ⟨rfl, trivial⟩ ?_
          try dsimp only [tup]
          have hz : sizesF o.kind = some (0, 0, 0) := by unfold sizesF; rw [if_pos (by omega)]
          exact ⟨_, [], hs.done, rfl, congrArg (Value.int .i64) (if_neg (validO_f hz (by omega))).symm⟩
        · -- h24: False
          dsimp only [cmpP] at h24
          refine O_y hs (Y_move rfl ?_)
          refine O_yy 25 hs rfl rfl (Y_fieldAddr FO24_1 rfl (m := 1) rfl ?_)
          refine O_yy 25 hs rfl rfl (Y_ld 0 Tryz.isAgg22 rfl rfl rfl ?_)
          refine O_yy 25 hs rfl rfl (Y_len Tryz.underlying22 rfl ?_)
          refine O_yy 25 hs rfl rfl (Y_move rfl ?_)
          refine O_yy 25 hs rfl rfl (Y_cmpS rfl rfl rfl (fun h30 => ?_) (fun h30 => ?_))
          · -- h30: True
            dsimp only [cmpP] at h30
            refine O_y hs (Y_pickF rfl rfl ?_)
            refine O_y hs (Y_move rfl ?_)
            refine O_no 32 rfl rfl ?_
            refine O_no 32 rfl rfl ?_
            refine O_no 32 rfl rfl ?_
            refine O_no 32 rfl rfl ?_
            refine O_no 32 rfl rfl ?_
            refine O_y hs (Y_pickT rfl rfl ?_)
            refine O_nil (T_sub [(38, _)] ⟨rfl, trivial⟩ ?_)
            refine T_condT rfl (T_seq (T_region rfl ?_))
            refine O_y hs (Y_assign rfl ?_)
            refine O_nil (T_sub [(2, _)] ⟨rfl, trivial⟩ ?_)
            refine T_ret ?_
            refine Rt_fin (vs := [_]) Tryz.results13 rfl ⟨rfl, trivial⟩ ?_
            try dsimp only [tup]
            have hz : sizesF o.kind = some (0, 0, 0) := by unfold sizesF; rw [if_pos (by omega)]
            exact ⟨_, [], hs.done, rfl, congrArg (Value.int .i64) (if_neg (validO_f hz (by omega))).symm⟩
          · -- h30: False
            dsimp only [cmpP] at h30
            refine O_y hs (Y_pickF rfl rfl ?_)
            refine O_y hs (Y_move rfl ?_)
            refine O_yy 32 hs rfl rfl (Y_fieldAddr FO24_2 rfl (m := 2) rfl ?_)
            refine O_yy 32 hs rfl rfl (Y_ld 0 Tryz.isAgg22 rfl rfl rfl ?_)
            refine O_yy 32 hs rfl rfl (Y_len Tryz.underlying22 rfl ?_)
            refine O_yy 32 hs rfl rfl (Y_move rfl ?_)
            refine O_yy 32 hs rfl rfl (Y_cmpS rfl rfl rfl (fun h37 => ?_) (fun h37 => ?_))
            · -- h37: True
              dsimp only [cmpP] at h37
              refine O_y hs (Y_pickF rfl rfl ?_)
              refine O_nil (T_sub [(38, _)] ⟨rfl, trivial⟩ ?_)
              refine T_condT rfl (T_seq (T_region rfl ?_))
              refine O_y hs (Y_assign rfl ?_)
              refine O_nil (T_sub [(2, _)] ⟨rfl, trivial⟩ ?_)
              refine T_ret ?_
              refine Rt_fin (vs := [_]) Tryz.results13 rfl ⟨rfl, trivial⟩ ?_
              try dsimp only [tup]
              have hz : sizesF o.kind = some (0, 0, 0) := by unfold sizesF; rw [if_pos (by omega)]
              exact ⟨_, [], hs.done, rfl, congrArg (Value.int .i64) (if_neg (validO_f hz (by omega))).symm⟩
            · -- h37: False
              dsimp only [cmpP] at h37
              refine O_y hs (Y_pickF rfl rfl ?_)
              refine O_nil (T_sub [(38, _)] ⟨rfl, trivial⟩ ?_)
              refine T_condF rfl (T_skip ?_)
              refine T_seq (T_region rfl ?_)
              refine O_y hs (Y_assign rfl ?_)
              refine O_nil (T_sub [(2, _)] ⟨rfl, trivial⟩ ?_)
              refine T_ret ?_
              refine Rt_fin (vs := [_]) Tryz.results13 rfl ⟨rfl, trivial⟩ ?_
              try dsimp only [tup]
              have hz : sizesF o.kind = some (0, 0, 0) := by unfold sizesF; rw [if_pos (by omega)]
              exact ⟨_, [], hs.done, rfl, congrArg (Value.int .i64) (if_pos (validO_t hz (by omega))).symm⟩
      · -- h11: False
        dsimp only [cmpP] at h11
        refine O_y hs (Y_assign rfl ?_)
        refine O_nil (T_sub [(1, _), (3, _), (4, _), (5, _), (7, _), (8, _)] ⟨rfl, rfl, rfl, rfl, rfl, rfl, trivial⟩ ?_)
        refine T_condF rfl (T_region rfl ?_)
        refine O_y hs (Y_cmpS rfl rfl rfl (fun h12 => ?_) (fun h12 => ?_))
        · -- h12: True
          dsimp only [cmpP] at h12
          refine O_y hs (Y_assign rfl ?_)
          refine O_nil (T_sub [(1, _), (3, _), (4, _), (5, _), (7, _), (8, _)] ⟨rfl, rfl, rfl, rfl, rfl, rfl, trivial⟩ ?_)
          refine T_condT rfl (T_skip ?_)
          refine T_seq (T_seq (T_region rfl ?_))
          refine O_y hs (Y_fieldAddr FO24_1 rfl (m := 1) rfl ?_)
          refine O_y hs (Y_ld 0 Tryz.isAgg22 rfl rfl rfl ?_)
          refine O_y hs (Y_len Tryz.underlying22 rfl ?_)
          refine O_y hs (Y_move rfl ?_)
          refine O_y hs (Y_cmpS rfl rfl rfl (fun h24 => ?_) (fun h24 => ?_))
          · -- h24: True
            dsimp only [cmpP] at h24
            refine O_y hs (Y_move rfl ?_)
            refine O_no 25 rfl rfl ?_
            refine O_no 25 rfl rfl ?_
            refine O_no 25 rfl rfl ?_
            refine O_no 25 rfl rfl ?_
            refine O_no 25 rfl rfl ?_
            refine O_y hs (Y_pickT rfl rfl ?_)
            refine O_y hs (Y_move rfl ?_)
            refine O_no 32 rfl rfl ?_
            refine O_no 32 rfl rfl ?_
            refine O_no 32 rfl rfl ?_
            refine O_no 32 rfl rfl ?_
            refine O_no 32 rfl rfl ?_
            refine O_y hs (Y_pickT rfl rfl ?_)
            refine O_nil (T_sub [(38, _)] ⟨rfl, trivial⟩ ?_)
            refine T_condT rfl (T_seq (T_region rfl ?_))
            refine O_y hs (Y_assign rfl ?_)
            refine O_nil (T_sub [(2, _)] ⟨rfl, trivial⟩ ?_)
            refine T_ret ?_
            refine Rt_fin (vs := [_]) Tryz.results13 rfl ⟨rfl, trivial⟩ ?_
            try dsimp only [tup]
            have hz : sizesF o.kind = some (0, 0, 0) := by unfold sizesF; rw [if_pos (by omega)]
            exact ⟨_, [], hs.done, rfl, congrArg (Value.int .i64) (if_neg (validO_f hz (by omega))).symm⟩
          · -- h24: False
            dsimp only [cmpP] at h24
            refine O_y hs (Y_move rfl ?_)
            refine O_yy 25 hs rfl rfl (Y_fieldAddr FO24_1 rfl (m := 1) rfl ?_)
            refine O_yy 25 hs rfl rfl (Y_ld 0 Tryz.isAgg22 rfl rfl rfl ?_)
            refine O_yy 25 hs rfl rfl (Y_len Tryz.underlying22 rfl ?_)
            refine O_yy 25 hs rfl rfl (Y_move rfl ?_)
            refine O_yy 25 hs rfl rfl (Y_cmpS rfl rfl rfl (fun h30 => ?_) (fun h30 => ?_))
            · -- h30: True
              dsimp only [cmpP] at h30
              refine O_y hs (Y_pickF rfl rfl ?_)
              refine O_y hs (Y_move rfl ?_)
              refine O_no 32 rfl rfl ?_
              refine O_no 32 rfl rfl ?_
              refine O_no 32 rfl rfl ?_
              refine O_no 32 rfl rfl ?_
              refine O_no 32 rfl rfl ?_
              refine O_y hs (Y_pickT rfl rfl ?_)
              refine O_nil (T_sub [(38, _)] ⟨rfl, trivial⟩ ?_)
              refine T_condT rfl (T_seq (T_region rfl ?_))
              refine O_y hs (Y_assign rfl ?_)
              refine O_nil (T_sub [(2, _)] ⟨rfl, trivial⟩ ?_)
              refine T_ret ?_
              refine Rt_fin (vs := [_]) Tryz.results13 rfl ⟨rfl, trivial⟩ ?_
              try dsimp only [tup]
              have hz : sizesF o.kind = some (0, 0, 0) := by unfold sizesF; rw [if_pos (by omega)]
              exact ⟨_, [], hs.done, rfl, congrArg (Value.int .i64) (if_neg (validO_f hz (by omega))).symm⟩
            · -- h30: False
              dsimp only [cmpP] at h30
              refine O_y hs (Y_pickF rfl rfl ?_)
              refine O_y hs (Y_move rfl ?_)
              refine O_yy 32 hs rfl rfl (Y_fieldAddr FO24_2 rfl (m := 2) rfl ?_)
              refine O_yy 32 hs rfl rfl (Y_ld 0 Tryz.isAgg22 rfl rfl rfl ?_)
              refine O_yy 32 hs rfl rfl (Y_len Tryz.underlying22 rfl ?_)
              refine O_yy 32 hs rfl rfl (Y_move rfl ?_)
              refine O_yy 32 hs rfl rfl (Y_cmpS rfl rfl rfl (fun h37 => ?_) (fun h37 => ?_))
              · -- h37: True
                dsimp only [cmpP] at h37
                refine O_y hs (Y_pickF rfl rfl ?_)
                refine O_nil (T_sub [(38, _)] ⟨rfl, trivial⟩ ?_)
                refine T_condT rfl (T_seq (T_region rfl ?_))
                refine O_y hs (Y_assign rfl ?_)
                refine O_nil (T_sub [(2, _)] ⟨rfl, trivial⟩ ?_)
                refine T_ret ?_
                refine Rt_fin (vs := [_]) Tryz.results13 rfl ⟨rfl, trivial⟩ ?_
                try dsimp only [tup]
                have hz : sizesF o.kind = some (0, 0, 0) := by unfold sizesF; rw [if_pos (by omega)]
                exact ⟨_, [], hs.done, rfl, congrArg (Value.int .i64) (if_neg (validO_f hz (by omega))).symm⟩
              · -- h37: False
                dsimp only [cmpP] at h37
                refine O_y hs (Y_pickF rfl rfl ?_)
                refine O_nil (T_sub [(38, _)] ⟨rfl, trivial⟩ ?_)
                refine T_condF rfl (T_skip ?_)
                refine T_seq (T_region rfl ?_)
                refine O_y hs (Y_assign rfl ?_)
                refine O_nil (T_sub [(2, _)] ⟨rfl, trivial⟩ ?_)
                refine T_ret ?_
                refine Rt_fin (vs := [_]) Tryz.results13 rfl ⟨rfl, trivial⟩ ?_
                try dsimp only [tup]
                have hz : sizesF o.kind = some (0, 0, 0) := by unfold sizesF; rw [if_pos (by omega)]
                exact ⟨_, [], hs.done, rfl, congrArg (Value.int .i64) (if_pos (validO_t hz (by omega))).symm⟩
        · -- h12: False
          dsimp only [cmpP] at h12
          refine O_y hs (Y_assign rfl ?_)
          refine O_nil (T_sub [(1, _), (3, _), (4, _), (5, _), (7, _), (8, _)] ⟨rfl, rfl, rfl, rfl, rfl, rfl, trivial⟩ ?_)
          refine T_condF rfl (T_seq (T_seq (T_region rfl ?_)))
          refine O_y hs (Y_cmpS rfl rfl rfl (fun h14 => ?_) (fun h14 => ?_))
          · -- h14: True
            dsimp only [cmpP] at h14
            refine O_y hs (Y_assign rfl ?_)
            refine O_nil (T_sub [(1, _), (5, _), (7, _), (13, _)] ⟨rfl, rfl, rfl, rfl, trivial⟩ ?_)
            refine T_condT rfl (T_skip ?_)
            refine T_condT rfl (T_seq (T_region rfl ?_))
            refine O_y hs (Y_assign rfl ?_)
            refine O_nil (T_sub [(1, _), (3, _)] ⟨rfl, rfl, trivial⟩ ?_)
            refine T_seq (T_region rfl ?_)
            refine O_y hs (Y_assign rfl ?_)
            refine O_nil (T_sub [(1, _), (3, _), (4, _)] ⟨rfl, rfl, rfl, trivial⟩ ?_)
            refine T_region rfl ?_
            refine O_y hs (Y_assign rfl ?_)
            refine O_nil (T_sub [(1, _), (3, _), (4, _), (5, _)] ⟨rfl, rfl, rfl, rfl, trivial⟩ ?_)
            refine T_seq (T_seq (T_region rfl ?_))
            refine O_y hs (Y_fieldAddr FO24_1 rfl (m := 1) rfl ?_)
            refine O_y hs (Y_ld 0 Tryz.isAgg22 rfl rfl rfl ?_)
            refine O_y hs (Y_len Tryz.underlying22 rfl ?_)
            refine O_y hs (Y_move rfl ?_)
            refine O_y hs (Y_cmpS rfl rfl rfl (fun h24 => ?_) (fun h24 => ?_))
            · -- h24: True
              dsimp only [cmpP] at h24
              refine O_y hs (Y_move rfl ?_)
              refine O_no 25 rfl rfl ?_
              refine O_no 25 rfl rfl ?_
              refine O_no 25 rfl rfl ?_
              refine O_no 25 rfl rfl ?_
              refine O_no 25 rfl rfl ?_
              refine O_y hs (Y_pickT rfl rfl ?_)
              refine O_y hs (Y_move rfl ?_)
              refine O_no 32 rfl rfl ?_
              refine O_no 32 rfl rfl ?_
              refine O_no 32 rfl rfl ?_
              refine O_no 32 rfl rfl ?_
              refine O_no 32 rfl rfl ?_
              refine O_y hs (Y_pickT rfl rfl ?_)
              refine O_nil (T_sub [(38, _)] ⟨rfl, trivial⟩ ?_)
              refine T_condT rfl (T_seq (T_region rfl ?_))
              refine O_y hs (Y_assign rfl ?_)
              refine O_nil (T_sub [(2, _)] ⟨rfl, trivial⟩ ?_)
              refine T_ret ?_
              refine Rt_fin (vs := [_]) Tryz.results13 rfl ⟨rfl, trivial⟩ ?_
              try dsimp only [tup]
              have hz : sizesF o.kind = some (1, 4, 4) := by unfold sizesF; rw [if_neg (by omega), if_pos (by omega)]
              exact ⟨_, [], hs.done, rfl, congrArg (Value.int .i64) (if_neg (validO_f hz (by omega))).symm⟩
            · -- h24: False
              dsimp only [cmpP] at h24
              refine O_y hs (Y_move rfl ?_)
              refine O_yy 25 hs rfl rfl (Y_fieldAddr FO24_1 rfl (m := 1) rfl ?_)
              refine O_yy 25 hs rfl rfl (Y_ld 0 Tryz.isAgg22 rfl rfl rfl ?_)
              refine O_yy 25 hs rfl rfl (Y_len Tryz.underlying22 rfl ?_)
              refine O_yy 25 hs rfl rfl (Y_move rfl ?_)
              refine O_yy 25 hs rfl rfl (Y_cmpS rfl rfl rfl (fun h30 => ?_) (fun h30 => ?_))
              · -- h30: True
                dsimp only [cmpP] at h30
                refine O_y hs (Y_pickF rfl rfl ?_)
                refine O_y hs (Y_move rfl ?_)
                refine O_no 32 rfl rfl ?_
                refine O_no 32 rfl rfl ?_
                refine O_no 32 rfl rfl ?_
                refine O_no 32 rfl rfl ?_
                refine O_no 32 rfl rfl ?_
                refine O_y hs (Y_pickT rfl rfl ?_)
                refine O_nil (T_sub [(38, _)] ⟨rfl, trivial⟩ ?_)
                refine T_condT rfl (T_seq (T_region rfl ?_))
                refine O_y hs (Y_assign rfl ?_)
                refine O_nil (T_sub [(2, _)] ⟨rfl, trivial⟩ ?_)
                refine T_ret ?_
                refine Rt_fin (vs := [_]) Tryz.results13 rfl ⟨rfl, trivial⟩ ?_
                try dsimp only [tup]
                have hz : sizesF o.kind = some (1, 4, 4) := by unfold sizesF; rw [if_neg (by omega), if_pos (by omega)]
                exact ⟨_, [], hs.done, rfl, congrArg (Value.int .i64) (if_neg (validO_f hz (by omega))).symm⟩
              · -- h30: False
                dsimp only [cmpP] at h30
                refine O_y hs (Y_pickF rfl rfl ?_)
                refine O_y hs (Y_move rfl ?_)
                refine O_yy 32 hs rfl rfl (Y_fieldAddr FO24_2 rfl (m := 2) rfl ?_)
                refine O_yy 32 hs rfl rfl (Y_ld 0 Tryz.isAgg22 rfl rfl rfl ?_)
                refine O_yy 32 hs rfl rfl (Y_len Tryz.underlying22 rfl ?_)
                refine O_yy 32 hs rfl rfl (Y_move rfl ?_)
                refine O_yy 32 hs rfl rfl (Y_cmpS rfl rfl rfl (fun h37 => ?_) (fun h37 => ?_))
                · -- h37: True
                  dsimp only [cmpP] at h37
                  refine O_y hs (Y_pickF rfl rfl ?_)
                  refine O_nil (T_sub [(38, _)] ⟨rfl, trivial⟩ ?_)
                  refine T_condT rfl (T_seq (T_region rfl ?_))
                  refine O_y hs (Y_assign rfl ?_)
                  refine O_nil (T_sub [(2, _)] ⟨rfl, trivial⟩ ?_)
                  refine T_ret ?_
                  refine Rt_fin (vs := [_]) Tryz.results13 rfl ⟨rfl, trivial⟩ ?_
                  try dsimp only [tup]
                  have hz : sizesF o.kind = some (1, 4, 4) := by unfold sizesF; rw [if_neg (by omega), if_pos (by omega)]
                  exact ⟨_, [], hs.done, rfl, congrArg (Value.int .i64) (if_neg (validO_f hz (by omega))).symm⟩
                · -- h37: False
                  dsimp only [cmpP] at h37
                  refine O_y hs (Y_pickF rfl rfl ?_)
                  refine O_nil (T_sub [(38, _)] ⟨rfl, trivial⟩ ?_)
                  refine T_condF rfl (T_skip ?_)
                  refine T_seq (T_region rfl ?_)
                  refine O_y hs (Y_assign rfl ?_)
                  refine O_nil (T_sub [(2, _)] ⟨rfl, trivial⟩ ?_)
                  refine T_ret ?_
                  refine Rt_fin (vs := [_]) Tryz.results13 rfl ⟨rfl, trivial⟩ ?_
                  try dsimp only [tup]
                  have hz : sizesF o.kind = some (1, 4, 4) := by unfold sizesF; rw [if_neg (by omega), if_pos (by omega)]
                  exact ⟨_, [], hs.done, rfl, congrArg (Value.int .i64) (if_pos (validO_t hz (by omega))).symm⟩
          · -- h14: False
            dsimp only [cmpP] at h14
            refine O_y hs (Y_assign rfl ?_)
            refine O_nil (T_sub [(1, _), (5, _), (7, _), (13, _)] ⟨rfl, rfl, rfl, rfl, trivial⟩ ?_)
            refine T_condF rfl (T_region rfl ?_)
            refine O_y hs (Y_cmpS rfl rfl rfl (fun h15 => ?_) (fun h15 => ?_))
            · -- h15: True
              dsimp only [cmpP] at h15
              refine O_y hs (Y_assign rfl ?_)
              refine O_nil (T_sub [(1, _), (5, _), (7, _), (13, _)] ⟨rfl, rfl, rfl, rfl, trivial⟩ ?_)
              refine T_condT rfl (T_seq (T_region rfl ?_))
              refine O_y hs (Y_assign rfl ?_)
              refine O_nil (T_sub [(1, _), (3, _)] ⟨rfl, rfl, trivial⟩ ?_)
              refine T_seq (T_region rfl ?_)
              refine O_y hs (Y_assign rfl ?_)
              refine O_nil (T_sub [(1, _), (3, _), (4, _)] ⟨rfl, rfl, rfl, trivial⟩ ?_)
              refine T_region rfl ?_
              refine O_y hs (Y_assign rfl ?_)
              refine O_nil (T_sub [(1, _), (3, _), (4, _), (5, _)] ⟨rfl, rfl, rfl, rfl, trivial⟩ ?_)
              refine T_seq (T_seq (T_region rfl ?_))
              refine O_y hs (Y_fieldAddr FO24_1 rfl (m := 1) rfl ?_)
              refine O_y hs (Y_ld 0 Tryz.isAgg22 rfl rfl rfl ?_)
              refine O_y hs (Y_len Tryz.underlying22 rfl ?_)
              refine O_y hs (Y_move rfl ?_)
              refine O_y hs (Y_cmpS rfl rfl rfl (fun h24 => ?_) (fun h24 => ?_))
              · -- h24: True
                dsimp only [cmpP] at h24
                refine O_y hs (Y_move rfl ?_)
                refine O_no 25 rfl rfl ?_
                refine O_no 25 rfl rfl ?_
                refine O_no 25 rfl rfl ?_
                refine O_no 25 rfl rfl ?_
                refine O_no 25 rfl rfl ?_
                refine O_y hs (Y_pickT rfl rfl ?_)
                refine O_y hs (Y_move rfl ?_)
                refine O_no 32 rfl rfl ?_
                refine O_no 32 rfl rfl ?_
                refine O_no 32 rfl rfl ?_
                refine O_no 32 rfl rfl ?_
                refine O_no 32 rfl rfl ?_
                refine O_y hs (Y_pickT rfl rfl ?_)
                refine O_nil (T_sub [(38, _)] ⟨rfl, trivial⟩ ?_)
                refine T_condT rfl (T_seq (T_region rfl ?_))
                refine O_y hs (Y_assign rfl ?_)
                refine O_nil (T_sub [(2, _)] ⟨rfl, trivial⟩ ?_)
                refine T_ret ?_
                refine Rt_fin (vs := [_]) Tryz.results13 rfl ⟨rfl, trivial⟩ ?_
                try dsimp only [tup]
                have hz : sizesF o.kind = some (1, 4, 4) := by unfold sizesF; rw [if_neg (by omega), if_pos (by omega)]
                exact ⟨_, [], hs.done, rfl, congrArg (Value.int .i64) (if_neg (validO_f hz (by omega))).symm⟩
              · -- h24: False
                dsimp only [cmpP] at h24
                refine O_y hs (Y_move rfl ?_)
                refine O_yy 25 hs rfl rfl (Y_fieldAddr FO24_1 rfl (m := 1) rfl ?_)
                refine O_yy 25 hs rfl rfl (Y_ld 0 Tryz.isAgg22 rfl rfl rfl ?_)
                refine O_yy 25 hs rfl rfl (Y_len Tryz.underlying22 rfl ?_)
                refine O_yy 25 hs rfl rfl (Y_move rfl ?_)
                refine O_yy 25 hs rfl rfl (Y_cmpS rfl rfl rfl (fun h30 => ?_) (fun h30 => ?_))
                · -- h30: True
                  dsimp only [cmpP] at h30
                  refine O_y hs (Y_pickF rfl rfl ?_)
                  refine O_y hs (Y_move rfl ?_)
                  refine O_no 32 rfl rfl ?_
                  refine O_no 32 rfl rfl ?_
                  refine O_no 32 rfl rfl ?_
                  refine O_no 32 rfl rfl ?_
                  refine O_no 32 rfl rfl ?_
                  refine O_y hs (Y_pickT rfl rfl ?_)
                  refine O_nil (T_sub [(38, _)] ⟨rfl, trivial⟩ ?_)
                  refine T_condT rfl (T_seq (T_region rfl ?_))
                  refine O_y hs (Y_assign rfl ?_)
                  refine O_nil (T_sub [(2, _)] ⟨rfl, trivial⟩ ?_)
                  refine T_ret ?_
                  refine Rt_fin (vs := [_]) Tryz.results13 rfl ⟨rfl, trivial⟩ ?_
                  try dsimp only [tup]
                  have hz : sizesF o.kind = some (1, 4, 4) := by unfold sizesF; rw [if_neg (by omega), if_pos (by omega)]
                  exact ⟨_, [], hs.done, rfl, congrArg (Value.int .i64) (if_neg (validO_f hz (by omega))).symm⟩
                · -- h30: False
                  dsimp only [cmpP] at h30
                  refine O_y hs (Y_pickF rfl rfl ?_)
                  refine O_y hs (Y_move rfl ?_)
                  refine O_yy 32 hs rfl rfl (Y_fieldAddr FO24_2 rfl (m := 2) rfl ?_)
                  refine O_yy 32 hs rfl rfl (Y_ld 0 Tryz.isAgg22 rfl rfl rfl ?_)
                  refine O_yy 32 hs rfl rfl (Y_len Tryz.underlying22 rfl ?_)
                  refine O_yy 32 hs rfl rfl (Y_move rfl ?_)
                  refine O_yy 32 hs rfl rfl (Y_cmpS rfl rfl rfl (fun h37 => ?_) (fun h37 => ?_))
                  · -- h37: True
                    dsimp only [cmpP] at h37
                    refine O_y hs (Y_pickF rfl rfl ?_)
                    refine O_nil (T_sub [(38, _)] ⟨rfl, trivial⟩ ?_)
                    refine T_condT rfl (T_seq (T_region rfl ?_))
                    refine O_y hs (Y_assign rfl ?_)
                    refine O_nil (T_sub [(2, _)] ⟨rfl, trivial⟩ ?_)
                    refine T_ret ?_
                    refine Rt_fin (vs := [_]) Tryz.results13 rfl ⟨rfl, trivial⟩ ?_
                    try dsimp only [tup]
                    have hz : sizesF o.kind = some (1, 4, 4) := by unfold sizesF; rw [if_neg (by omega), if_pos (by omega)]
                    exact ⟨_, [], hs.done, rfl, congrArg (Value.int .i64) (if_neg (validO_f hz (by omega))).symm⟩
                  · -- h37: False
                    dsimp only [cmpP] at h37
                    refine O_y hs (Y_pickF rfl rfl ?_)
                    refine O_nil (T_sub [(38, _)] ⟨rfl, trivial⟩ ?_)
                    refine T_condF rfl (T_skip ?_)
                    refine T_seq (T_region rfl ?_)
                    refine O_y hs (Y_assign rfl ?_)
                    refine O_nil (T_sub [(2, _)] ⟨rfl, trivial⟩ ?_)
                    refine T_ret ?_
                    refine Rt_fin (vs := [_]) Tryz.results13 rfl ⟨rfl, trivial⟩ ?_
                    try dsimp only [tup]
                    have hz : sizesF o.kind = some (1, 4, 4) := by unfold sizesF; rw [if_neg (by omega), if_pos (by omega)]
                    exact ⟨_, [], hs.done, rfl, congrArg (Value.int .i64) (if_pos (validO_t hz (by omega))).symm⟩
            · -- h15: False
              dsimp only [cmpP] at h15
              refine O_y hs (Y_assign rfl ?_)
              refine O_nil (T_sub [(1, _), (5, _), (7, _), (13, _)] ⟨rfl, rfl, rfl, rfl, trivial⟩ ?_)
              refine T_condF rfl (T_seq (T_region rfl ?_))
              refine O_y hs (Y_cmpS rfl rfl rfl (fun h17 => ?_) (fun h17 => ?_))
              · -- h17: True
                dsimp only [cmpP] at h17
                refine O_y hs (Y_assign rfl ?_)
                refine O_nil (T_sub [(1, _), (5, _), (7, _), (16, _)] ⟨rfl, rfl, rfl, rfl, trivial⟩ ?_)
                refine T_condT rfl (T_seq (T_region rfl ?_))
                refine O_y hs (Y_assign rfl ?_)
                refine O_nil (T_sub [(1, _), (3, _), (5, _)] ⟨rfl, rfl, rfl, trivial⟩ ?_)
                refine T_region rfl ?_
                refine O_y hs (Y_assign rfl ?_)
                refine O_nil (T_sub [(1, _), (3, _), (4, _), (5, _)] ⟨rfl, rfl, rfl, rfl, trivial⟩ ?_)
                refine T_seq (T_seq (T_region rfl ?_))
                refine O_y hs (Y_fieldAddr FO24_1 rfl (m := 1) rfl ?_)
                refine O_y hs (Y_ld 0 Tryz.isAgg22 rfl rfl rfl ?_)
                refine O_y hs (Y_len Tryz.underlying22 rfl ?_)
                refine O_y hs (Y_move rfl ?_)
                refine O_y hs (Y_cmpS rfl rfl rfl (fun h24 => ?_) (fun h24 => ?_))
                · -- h24: True
                  dsimp only [cmpP] at h24
                  refine O_y hs (Y_move rfl ?_)
                  refine O_no 25 rfl rfl ?_
                  refine O_no 25 rfl rfl ?_
                  refine O_no 25 rfl rfl ?_
                  refine O_no 25 rfl rfl ?_
                  refine O_no 25 rfl rfl ?_
                  refine O_y hs (Y_pickT rfl rfl ?_)
                  refine O_y hs (Y_move rfl ?_)
                  refine O_no 32 rfl rfl ?_
                  refine O_no 32 rfl rfl ?_
                  refine O_no 32 rfl rfl ?_
                  refine O_no 32 rfl rfl ?_
                  refine O_no 32 rfl rfl ?_
                  refine O_y hs (Y_pickT rfl rfl ?_)
                  refine O_nil (T_sub [(38, _)] ⟨rfl, trivial⟩ ?_)
                  refine T_condT rfl (T_seq (T_region rfl ?_))
                  refine O_y hs (Y_assign rfl ?_)
                  refine O_nil (T_sub [(2, _)] ⟨rfl, trivial⟩ ?_)
                  refine T_ret ?_
                  refine Rt_fin (vs := [_]) Tryz.results13 rfl ⟨rfl, trivial⟩ ?_
                  try dsimp only [tup]
                  have hz : sizesF o.kind = some (1, 8, 0) := by unfold sizesF; rw [if_neg (by omega), if_neg (by omega), if_pos (by omega)]
                  exact ⟨_, [], hs.done, rfl, congrArg (Value.int .i64) (if_neg (validO_f hz (by omega))).symm⟩
                · -- h24: False
                  dsimp only [cmpP] at h24
                  refine O_y hs (Y_move rfl ?_)
                  refine O_yy 25 hs rfl rfl (Y_fieldAddr FO24_1 rfl (m := 1) rfl ?_)
                  refine O_yy 25 hs rfl rfl (Y_ld 0 Tryz.isAgg22 rfl rfl rfl ?_)
                  refine O_yy 25 hs rfl rfl (Y_len Tryz.underlying22 rfl ?_)
                  refine O_yy 25 hs rfl rfl (Y_move rfl ?_)
                  refine O_yy 25 hs rfl rfl (Y_cmpS rfl rfl rfl (fun h30 => ?_) (fun h30 => ?_))
                  · -- h30: True
                    dsimp only [cmpP] at h30
                    refine O_y hs (Y_pickF rfl rfl ?_)
                    refine O_y hs (Y_move rfl ?_)
                    refine O_no 32 rfl rfl ?_
                    refine O_no 32 rfl rfl ?_
                    refine O_no 32 rfl rfl ?_
                    refine O_no 32 rfl rfl ?_
                    refine O_no 32 rfl rfl ?_
                    refine O_y hs (Y_pickT rfl rfl ?_)
                    refine O_nil (T_sub [(38, _)] ⟨rfl, trivial⟩ ?_)
                    refine T_condT rfl (T_seq (T_region rfl ?_))
                    refine O_y hs (Y_assign rfl ?_)
                    refine O_nil (T_sub [(2, _)] ⟨rfl, trivial⟩ ?_)
                    refine T_ret ?_
                    refine Rt_fin (vs := [_]) Tryz.results13 rfl ⟨rfl, trivial⟩ ?_
                    try dsimp only [tup]
                    have hz : sizesF o.kind = some (1, 8, 0) := by unfold sizesF; rw [if_neg (by omega), if_neg (by omega), if_pos (by omega)]
                    exact ⟨_, [], hs.done, rfl, congrArg (Value.int .i64) (if_neg (validO_f hz (by omega))).symm⟩
                  · -- h30: False
                    dsimp only [cmpP] at h30
                    refine O_y hs (Y_pickF rfl rfl ?_)
                    refine O_y hs (Y_move rfl ?_)
                    refine O_yy 32 hs rfl rfl (Y_fieldAddr FO24_2 rfl (m := 2) rfl ?_)
                    refine O_yy 32 hs rfl rfl (Y_ld 0 Tryz.isAgg22 rfl rfl rfl ?_)
                    refine O_yy 32 hs rfl rfl (Y_len Tryz.underlying22 rfl ?_)
                    refine O_yy 32 hs rfl rfl (Y_move rfl ?_)
                    refine O_yy 32 hs rfl rfl (Y_cmpS rfl rfl rfl (fun h37 => ?_) (fun h37 => ?_))
                    · -- h37: True
                      dsimp only [cmpP] at h37
                      refine O_y hs (Y_pickF rfl rfl ?_)
                      refine O_nil (T_sub [(38, _)] ⟨rfl, trivial⟩ ?_)
                      refine T_condT rfl (T_seq (T_region rfl ?_))
                      refine O_y hs (Y_assign rfl ?_)
                      refine O_nil (T_sub [(2, _)] ⟨rfl, trivial⟩ ?_)
                      refine T_ret ?_
                      refine Rt_fin (vs := [_]) Tryz.results13 rfl ⟨rfl, trivial⟩ ?_
                      try dsimp only [tup]
                      have hz : sizesF o.kind = some (1, 8, 0) := by unfold sizesF; rw [if_neg (by omega), if_neg (by omega), if_pos (by omega)]
                      exact ⟨_, [], hs.done, rfl, congrArg (Value.int .i64) (if_neg (validO_f hz (by omega))).symm⟩
                    · -- h37: False
                      dsimp only [cmpP] at h37
                      refine O_y hs (Y_pickF rfl rfl ?_)
                      refine O_nil (T_sub [(38, _)] ⟨rfl, trivial⟩ ?_)
                      refine T_condF rfl (T_skip ?_)
                      refine T_seq (T_region rfl ?_)
                      refine O_y hs (Y_assign rfl ?_)
                      refine O_nil (T_sub [(2, _)] ⟨rfl, trivial⟩ ?_)
                      refine T_ret ?_
                      refine Rt_fin (vs := [_]) Tryz.results13 rfl ⟨rfl, trivial⟩ ?_
                      try dsimp only [tup]
                      have hz : sizesF o.kind = some (1, 8, 0) := by unfold sizesF; rw [if_neg (by omega), if_neg (by omega), if_pos (by omega)]
                      exact ⟨_, [], hs.done, rfl, congrArg (Value.int .i64) (if_pos (validO_t hz (by omega))).symm⟩
              · -- h17: False
                dsimp only [cmpP] at h17
                refine O_y hs (Y_assign rfl ?_)
                refine O_nil (T_sub [(1, _), (5, _), (7, _), (16, _)] ⟨rfl, rfl, rfl, rfl, trivial⟩ ?_)
                refine T_condF rfl (T_seq (T_region rfl ?_))
                refine O_y hs (Y_cmpS rfl rfl rfl (fun h19 => ?_) (fun h19 => ?_))
                · -- h19: True
                  dsimp only [cmpP] at h19
                  refine O_y hs (Y_assign rfl ?_)
                  refine O_nil (T_sub [(1, _), (5, _), (18, _)] ⟨rfl, rfl, rfl, trivial⟩ ?_)
                  refine T_condT rfl (T_seq (T_region rfl ?_))
                  refine O_y hs (Y_assign rfl ?_)
                  refine O_nil (T_sub [(1, _), (3, _), (5, _)] ⟨rfl, rfl, rfl, trivial⟩ ?_)
                  refine T_region rfl ?_
                  refine O_y hs (Y_assign rfl ?_)
                  refine O_nil (T_sub [(1, _), (3, _), (4, _), (5, _)] ⟨rfl, rfl, rfl, rfl, trivial⟩ ?_)
                  refine T_seq (T_seq (T_region rfl ?_))
                  refine O_y hs (Y_fieldAddr FO24_1 rfl (m := 1) rfl ?_)
                  refine O_y hs (Y_ld 0 Tryz.isAgg22 rfl rfl rfl ?_)
                  refine O_y hs (Y_len Tryz.underlying22 rfl ?_)
                  refine O_y hs (Y_move rfl ?_)
                  refine O_y hs (Y_cmpS rfl rfl rfl (fun h24 => ?_) (fun h24 => ?_))
                  · -- h24: True
                    dsimp only [cmpP] at h24
                    refine O_y hs (Y_move rfl ?_)
                    refine O_no 25 rfl rfl ?_
                    refine O_no 25 rfl rfl ?_
                    refine O_no 25 rfl rfl ?_
                    refine O_no 25 rfl rfl ?_
                    refine O_no 25 rfl rfl ?_
                    refine O_y hs (Y_pickT rfl rfl ?_)
                    refine O_y hs (Y_move rfl ?_)
                    refine O_no 32 rfl rfl ?_
                    refine O_no 32 rfl rfl ?_
                    refine O_no 32 rfl rfl ?_
                    refine O_no 32 rfl rfl ?_
                    refine O_no 32 rfl rfl ?_
                    refine O_y hs (Y_pickT rfl rfl ?_)
                    refine O_nil (T_sub [(38, _)] ⟨rfl, trivial⟩ ?_)
                    refine T_condT rfl (T_seq (T_region rfl ?_))
                    refine O_y hs (Y_assign rfl ?_)
                    refine O_nil (T_sub [(2, _)] ⟨rfl, trivial⟩ ?_)
                    refine T_ret ?_
                    refine Rt_fin (vs := [_]) Tryz.results13 rfl ⟨rfl, trivial⟩ ?_
                    try dsimp only [tup]
                    have hz : sizesF o.kind = some (1, 1, 0) := by unfold sizesF; rw [if_neg (by omega), if_neg (by omega), if_neg (by omega), if_pos (by omega)]
                    exact ⟨_, [], hs.done, rfl, congrArg (Value.int .i64) (if_neg (validO_f hz (by omega))).symm⟩
                  · -- h24: False
                    dsimp only [cmpP] at h24
                    refine O_y hs (Y_move rfl ?_)
                    refine O_yy 25 hs rfl rfl (Y_fieldAddr FO24_1 rfl (m := 1) rfl ?_)
                    refine O_yy 25 hs rfl rfl (Y_ld 0 Tryz.isAgg22 rfl rfl rfl ?_)
                    refine O_yy 25 hs rfl rfl (Y_len Tryz.underlying22 rfl ?_)
                    refine O_yy 25 hs rfl rfl (Y_move rfl ?_)
                    refine O_yy 25 hs rfl rfl (Y_cmpS rfl rfl rfl (fun h30 => ?_) (fun h30 => ?_))
                    · -- h30: True
                      dsimp only [cmpP] at h30
                      refine O_y hs (Y_pickF rfl rfl ?_)
                      refine O_y hs (Y_move rfl ?_)
                      refine O_no 32 rfl rfl ?_
                      refine O_no 32 rfl rfl ?_
                      refine O_no 32 rfl rfl ?_
                      refine O_no 32 rfl rfl ?_
                      refine O_no 32 rfl rfl ?_
                      refine O_y hs (Y_pickT rfl rfl ?_)
                      refine O_nil (T_sub [(38, _)] ⟨rfl, trivial⟩ ?_)
                      refine T_condT rfl (T_seq (T_region rfl ?_))
                      refine O_y hs (Y_assign rfl ?_)
                      refine O_nil (T_sub [(2, _)] ⟨rfl, trivial⟩ ?_)
                      refine T_ret ?_
                      refine Rt_fin (vs := [_]) Tryz.results13 rfl ⟨rfl, trivial⟩ ?_
                      try dsimp only [tup]
                      have hz : sizesF o.kind = some (1, 1, 0) := by unfold sizesF; rw [if_neg (by omega), if_neg (by omega), if_neg (by omega), if_pos (by omega)]
                      exact ⟨_, [], hs.done, rfl, congrArg (Value.int .i64) (if_neg (validO_f hz (by omega))).symm⟩
                    · -- h30: False
                      dsimp only [cmpP] at h30
                      refine O_y hs (Y_pickF rfl rfl ?_)
                      refine O_y hs (Y_move rfl ?_)
                      refine O_yy 32 hs rfl rfl (Y_fieldAddr FO24_2 rfl (m := 2) rfl ?_)
                      refine O_yy 32 hs rfl rfl (Y_ld 0 Tryz.isAgg22 rfl rfl rfl ?_)
                      refine O_yy 32 hs rfl rfl (Y_len Tryz.underlying22 rfl ?_)
                      refine O_yy 32 hs rfl rfl (Y_move rfl ?_)
                      refine O_yy 32 hs rfl rfl (Y_cmpS rfl rfl rfl (fun h37 => ?_) (fun h37 => ?_))
                      · -- h37: True
                        dsimp only [cmpP] at h37
                        refine O_y hs (Y_pickF rfl rfl ?_)
                        refine O_nil (T_sub [(38, _)] ⟨rfl, trivial⟩ ?_)
                        refine T_condT rfl (T_seq (T_region rfl ?_))
                        refine O_y hs (Y_assign rfl ?_)
                        refine O_nil (T_sub [(2, _)] ⟨rfl, trivial⟩ ?_)
                        refine T_ret ?_
                        refine Rt_fin (vs := [_]) Tryz.results13 rfl ⟨rfl, trivial⟩ ?_
                        try dsimp only [tup]
                        have hz : sizesF o.kind = some (1, 1, 0) := by unfold sizesF; rw [if_neg (by omega), if_neg (by omega), if_neg (by omega), if_pos (by omega)]
                        exact ⟨_, [], hs.done, rfl, congrArg (Value.int .i64) (if_neg (validO_f hz (by omega))).symm⟩
                      · -- h37: False
                        dsimp only [cmpP] at h37
                        refine O_y hs (Y_pickF rfl rfl ?_)
                        refine O_nil (T_sub [(38, _)] ⟨rfl, trivial⟩ ?_)
                        refine T_condF rfl (T_skip ?_)
                        refine T_seq (T_region rfl ?_)
                        refine O_y hs (Y_assign rfl ?_)
                        refine O_nil (T_sub [(2, _)] ⟨rfl, trivial⟩ ?_)
                        refine T_ret ?_
                        refine Rt_fin (vs := [_]) Tryz.results13 rfl ⟨rfl, trivial⟩ ?_
                        try dsimp only [tup]
                        have hz : sizesF o.kind = some (1, 1, 0) := by unfold sizesF; rw [if_neg (by omega), if_neg (by omega), if_neg (by omega), if_pos (by omega)]
                        exact ⟨_, [], hs.done, rfl, congrArg (Value.int .i64) (if_pos (validO_t hz (by omega))).symm⟩
                · -- h19: False
                  dsimp only [cmpP] at h19
                  refine O_y hs (Y_assign rfl ?_)
                  refine O_nil (T_sub [(1, _), (5, _), (18, _)] ⟨rfl, rfl, rfl, trivial⟩ ?_)
                  refine T_condF rfl (T_seq (T_region rfl ?_))
                  refine O_y hs (Y_assign rfl ?_)
                  refine O_nil (T_sub [(2, _)] ⟨rfl, trivial⟩ ?_)
                  refine T_ret ?_
                  refine Rt_fin (vs := [_]) Tryz.results13 rfl ⟨rfl, trivial⟩ ?_
                  try dsimp only [tup]
                  have hz : sizesF o.kind = none := by unfold sizesF; rw [if_neg (by omega), if_neg (by omega), if_neg (by omega), if_neg (by omega)]
                  exact ⟨_, [], hs.done, rfl, congrArg (Value.int .i64) (if_neg (validO_n hz)).symm⟩

set_option maxHeartbeats 400000 in
set_option maxRecDepth 10000 in
theorem at_ok {G : Ghost} {vo vb : Value} {old b : List UInt8} {i : Nat} (ho : Bytes G vo old) (hb : Bytes G vb b) (hi : i ≤ b.length) (hol : old.length ≤ 1000000000) (hbl : b.length ≤ 1000000000) :
    FnOk Tryz.prog 21 [vo, vb, .int .i64 (i : Int)] G [] fun r _ H' => H' = [] ∧ r = .bool (old.isPrefixOf (b.drop i)) := by
  obtain ⟨A1, c1, rfl, _⟩ := id ho
  obtain ⟨A, cap, rfl, _⟩ := id hb
  refine FnOk.of_T [(0, _), (1, _), (2, _)] Tryz.func21 rfl Tryz.ntmps21 (by simp) rfl fun w0 hs => ?_
  have ho0 := ho
  have hb0 := hb
  refine T_seq (T_region rfl ?_)
  refine O_y hs (Y_assign rfl ?_)
  refine O_nil (T_sub [(0, _), (1, _), (2, _)] ⟨rfl, rfl, rfl, trivial⟩ ?_)
  refine T_seq (T_seq (T_region rfl ?_))
  refine O_y hs (Y_move rfl ?_)
  refine O_y hs (Y_move rfl ?_)
  refine O_y hs (Y_len Tryz.underlying22 rfl ?_)
  refine O_y hs (Y_add (c := ((i + old.length : Nat) : Int)) rfl rfl (by omega) (by omega) ?_)
  refine O_y hs (Y_move rfl ?_)
  refine O_y hs (Y_len Tryz.underlying22 rfl ?_)
  refine O_y hs (Y_cmpS rfl rfl rfl (fun h14 => ?_) (fun h14 => ?_))
  · -- h14: True
    dsimp only [cmpP] at h14
    refine O_nil (T_sub [(0, _), (1, _), (2, _), (14, _)] ⟨rfl, rfl, rfl, rfl, trivial⟩ ?_)
    refine T_condT rfl (T_seq (T_region rfl ?_))
    refine O_y hs (Y_assign rfl ?_)
    refine O_nil (T_sub [(6, _)] ⟨rfl, trivial⟩ ?_)
    refine T_ret ?_
    refine Rt_fin (vs := [_]) Tryz.results21 rfl ⟨rfl, trivial⟩ ?_
    try dsimp only [tup]
    exact ⟨_, [], hs.done, rfl, congrArg Value.bool (at_short (by omega) hi).symm⟩
  · -- h14: False
    dsimp only [cmpP] at h14
    refine O_nil (T_sub [(0, _), (1, _), (2, _), (14, _)] ⟨rfl, rfl, rfl, rfl, trivial⟩ ?_)
    refine T_condF rfl (T_skip ?_)
    refine T_seq (T_seq (T_region rfl ?_))
    refine O_y hs (Y_assign rfl ?_)
    refine O_nil (T_sub [(0, _), (1, _), (2, _), (7, _)] ⟨rfl, rfl, rfl, rfl, trivial⟩ ?_)
    refine T_block (T_loop (fun m E w => ∃ (k : Nat) (G' : Ghost), k ≤ old.length ∧ (b.drop i).take k = old.take k ∧ m = old.length - k ∧ E = ⟨[], [(0, (.slice A1 old.length c1)), (1, (.slice A b.length cap)), (2, .int .i64 (i : Int)), (7, .int .i64 (k : Int))]⟩ ∧ St ⟨w0, G, feet []⟩ G' [] w) (L := [(0, _), (1, _), (2, _), (7, _)]) ⟨rfl, rfl, rfl, rfl, trivial⟩ (⟨0, _, by omega, by simp, rfl, rfl, hs⟩) fun m E w hI => ?_)
    obtain ⟨k, G', hk, hk2, rfl, rfl, hs⟩ := hI
    have ho := ho0.mono hs.le
    have hb := hb0.mono hs.le
    refine T_seq (T_seq (T_region rfl ?_))
    refine O_y hs (Y_move rfl ?_)
    refine O_y hs (Y_move rfl ?_)
    refine O_y hs (Y_len Tryz.underlying22 rfl ?_)
    refine O_y hs (Y_cmpS rfl rfl rfl (fun h18 => ?_) (fun h18 => ?_))
    · -- h18: True
      dsimp only [cmpP] at h18
      refine O_nil (T_sub [(0, _), (1, _), (2, _), (7, _), (18, _)] ⟨rfl, rfl, rfl, rfl, rfl, trivial⟩ ?_)
      refine T_condT rfl (T_skip ?_)
      refine T_seq (T_block (T_seq (T_drawS [0, 1, 2, 3, 4, 5, 6, 7, 8, 9, 10] hs (by kernel_rfl) ?_)))
      replace hs := hs.drew
      refine A_take 0 rfl (by kernel_rfl) rfl hs (Y_move rfl ?_)
      refine A_take 1 rfl (by kernel_rfl) rfl hs (Y_move rfl ?_)
      refine A_take 2 rfl (by kernel_rfl) rfl hs (Y_move rfl ?_)
      refine A_take 3 rfl (by kernel_rfl) rfl hs (Y_add (c := ((i + k : Nat) : Int)) rfl rfl (by omega) (by omega) ?_)
      refine A_take 4 rfl (by kernel_rfl) rfl hs (Y_idxB hb (i + k) Tryz.underlying22 Tryz.sizeOf5 rfl rfl rfl (by omega) fun p25 hp25 => ?_)
      refine A_take 5 rfl (by kernel_rfl) rfl hs (Y_ldG Tryz.isAgg5 rfl (hp25) ?_)
      refine A_take 6 rfl (by kernel_rfl) rfl hs (Y_move rfl ?_)
      refine A_take 7 rfl (by kernel_rfl) rfl hs (Y_move rfl ?_)
      refine A_take 8 rfl (by kernel_rfl) rfl hs (Y_idxB ho k Tryz.underlying22 Tryz.sizeOf5 rfl rfl rfl (by omega) fun p29 hp29 => ?_)
      refine A_take 9 rfl (by kernel_rfl) rfl hs (Y_ldG Tryz.isAgg5 rfl (hp29) ?_)
      refine A_take 10 rfl (by kernel_rfl) rfl hs (Y_cmpS rfl rfl rfl (fun h31 => ?_) (fun h31 => ?_))
      · -- h31: True
        dsimp only [cmpP] at h31
        refine A_done (by kernel_rfl) (T_sub [(0, _), (1, _), (2, _), (7, _), (31, _)] ⟨rfl, rfl, rfl, rfl, rfl, trivial⟩ ?_)
        refine T_condT rfl (T_seq (T_region rfl ?_))
        refine O_y hs (Y_assign rfl ?_)
        refine O_nil (T_sub [(6, _)] ⟨rfl, trivial⟩ ?_)
        refine T_ret ?_
        refine Rt_fin (vs := [_]) Tryz.results21 rfl ⟨rfl, trivial⟩ ?_
        try dsimp only [tup]
        exact ⟨_, [], hs.done, rfl, congrArg Value.bool (at_no (k := k) (by omega) (by omega) (fun h => h31 (by rw [h]))).symm⟩
      · -- h31: False
        dsimp only [cmpP] at h31
        refine A_done (by kernel_rfl) (T_sub [(0, _), (1, _), (2, _), (7, _), (31, _)] ⟨rfl, rfl, rfl, rfl, rfl, trivial⟩ ?_)
        refine T_condF rfl (T_skip ?_)
        refine T_region rfl ?_
        refine O_y hs (Y_move rfl ?_)
        refine O_y hs (Y_add (c := ((k + 1 : Nat) : Int)) rfl rfl (by omega) (by omega) ?_)
        refine O_y hs (Y_assign rfl ?_)
        refine O_nil ⟨_, ?_, [(0, _), (1, _), (2, _), (7, _)], ⟨rfl, rfl, rfl, rfl, trivial⟩, ⟨k + 1, _, by omega, at_step (by omega) (by omega) hk2 (u8i (by omega)), rfl, rfl, hs⟩⟩
        omega
    · -- h18: False
      dsimp only [cmpP] at h18
      refine O_nil (T_sub [(0, _), (1, _), (2, _), (7, _), (18, _)] ⟨rfl, rfl, rfl, rfl, rfl, trivial⟩ ?_)
      refine T_condF rfl (T_exit ?_)
      refine T_seq (T_region rfl ?_)
      refine O_y hs (Y_assign rfl ?_)
      refine O_nil (T_sub [(6, _)] ⟨rfl, trivial⟩ ?_)
      refine T_ret ?_
      refine Rt_fin (vs := [_]) Tryz.results21 rfl ⟨rfl, trivial⟩ ?_
      try dsimp only [tup]
      obtain rfl : k = old.length := by omega
      exact ⟨_, [], hs.done, rfl, congrArg Value.bool (at_yes hk2).symm⟩

set_option maxHeartbeats 400000 in
set_option maxRecDepth 10000 in
theorem in_ok {G : Ghost} {v : Value} {l : List UInt8} {x : UInt8} (hb : Bytes G v l) (hl : l.length ≤ 1000000000) :
    FnOk Tryz.prog 31 [v, .int .u8 (x.toNat : Int)] G [] fun r _ H' => H' = [] ∧ r = .bool (l.contains x) := by
  obtain ⟨A, cap, rfl, _⟩ := id hb
  refine FnOk.of_T [(0, _), (1, _)] Tryz.func31 rfl Tryz.ntmps31 (by simp) rfl fun w0 hs => ?_
  have hb0 := hb
  refine T_seq (T_region rfl ?_)
  refine O_y hs (Y_assign rfl ?_)
  refine O_nil (T_sub [(0, _), (1, _)] ⟨rfl, rfl, trivial⟩ ?_)
  refine T_seq (T_seq (T_region rfl ?_))
  refine O_y hs (Y_assign rfl ?_)
  refine O_nil (T_sub [(0, _), (1, _), (5, _)] ⟨rfl, rfl, rfl, trivial⟩ ?_)
  refine T_block (T_loop (fun m E w => ∃ (k : Nat) (G' : Ghost), k ≤ l.length ∧ (l.take k).contains x = false ∧ m = l.length - k ∧ E = ⟨[], [(0, (.slice A l.length cap)), (1, .int .u8 (x.toNat : Int)), (5, .int .i64 (k : Int))]⟩ ∧ St ⟨w0, G, feet []⟩ G' [] w) (L := [(0, _), (1, _), (5, _)]) ⟨rfl, rfl, rfl, trivial⟩ (⟨0, _, by omega, rfl, rfl, rfl, hs⟩) fun m E w hI => ?_)
  obtain ⟨k, G', hk, hc, rfl, rfl, hs⟩ := hI
  have hb := hb0.mono hs.le
  refine T_seq (T_seq (T_region rfl ?_))
  refine O_y hs (Y_move rfl ?_)
  refine O_y hs (Y_move rfl ?_)
  refine O_y hs (Y_len Tryz.underlying22 rfl ?_)
  refine O_y hs (Y_cmpS rfl rfl rfl (fun h9 => ?_) (fun h9 => ?_))
  · -- h9: True
    dsimp only [cmpP] at h9
    refine O_nil (T_sub [(0, _), (1, _), (5, _), (9, _)] ⟨rfl, rfl, rfl, rfl, trivial⟩ ?_)
    refine T_condT rfl (T_skip ?_)
    refine T_seq (T_block (T_seq (T_region rfl ?_)))
    refine O_y hs (Y_move rfl ?_)
    refine O_y hs (Y_move rfl ?_)
    refine O_y hs (Y_idxB hb k Tryz.underlying22 Tryz.sizeOf5 rfl rfl rfl (by omega) fun p14 hp14 => ?_)
    refine O_y hs (Y_ldG Tryz.isAgg5 rfl (hp14) ?_)
    refine O_y hs (Y_move rfl ?_)
    refine O_y hs (Y_cmpS rfl rfl rfl (fun h17 => ?_) (fun h17 => ?_))
    · -- h17: True
      dsimp only [cmpP] at h17
      refine O_nil (T_sub [(0, _), (1, _), (5, _), (17, _)] ⟨rfl, rfl, rfl, rfl, trivial⟩ ?_)
      refine T_condT rfl (T_seq (T_region rfl ?_))
      refine O_y hs (Y_assign rfl ?_)
      refine O_nil (T_sub [(4, _)] ⟨rfl, trivial⟩ ?_)
      refine T_ret ?_
      refine Rt_fin (vs := [_]) Tryz.results31 rfl ⟨rfl, trivial⟩ ?_
      try dsimp only [tup]
      exact ⟨_, [], hs.done, rfl, congrArg Value.bool (in_yes (k := k) (by omega) (u8i h17)).symm⟩
    · -- h17: False
      dsimp only [cmpP] at h17
      refine O_nil (T_sub [(0, _), (1, _), (5, _), (17, _)] ⟨rfl, rfl, rfl, rfl, trivial⟩ ?_)
      refine T_condF rfl (T_skip ?_)
      refine T_region rfl ?_
      refine O_y hs (Y_move rfl ?_)
      refine O_y hs (Y_add (c := ((k + 1 : Nat) : Int)) rfl rfl (by omega) (by omega) ?_)
      refine O_y hs (Y_assign rfl ?_)
      refine O_nil ⟨_, ?_, [(0, _), (1, _), (5, _)], ⟨rfl, rfl, rfl, trivial⟩, ⟨k + 1, _, by omega, in_no (by omega) hc (fun h => h17 (by rw [h])), rfl, rfl, hs⟩⟩
      omega
  · -- h9: False
    dsimp only [cmpP] at h9
    refine O_nil (T_sub [(0, _), (1, _), (5, _), (9, _)] ⟨rfl, rfl, rfl, rfl, trivial⟩ ?_)
    refine T_condF rfl (T_exit ?_)
    refine T_seq (T_region rfl ?_)
    refine O_y hs (Y_assign rfl ?_)
    refine O_nil (T_sub [(4, _)] ⟨rfl, trivial⟩ ?_)
    refine T_ret ?_
    refine Rt_fin (vs := [_]) Tryz.results31 rfl ⟨rfl, trivial⟩ ?_
    try dsimp only [tup]
    obtain rfl : k = l.length := by omega
    rw [List.take_length] at hc
    exact ⟨_, [], hs.done, rfl, congrArg Value.bool hc.symm⟩

set_option maxHeartbeats 400000 in
set_option maxRecDepth 10000 in
theorem occurs_ok {G : Ghost} {v : Value} {l : List UInt8} {x : UInt8} (hb : Bytes G v l) (hl : l.length ≤ 1000000000) :
    FnOk Tryz.prog 23 [v, .int .u8 (x.toNat : Int)] G [] fun r _ H' => H' = [] ∧ r = .bool (l.contains x) := by
  obtain ⟨A, cap, rfl, _⟩ := id hb
  refine FnOk.of_T [(0, _), (1, _)] Tryz.func23 rfl Tryz.ntmps23 (by simp) rfl fun w0 hs => ?_
  have hb0 := hb
  refine T_seq (T_region rfl ?_)
  refine O_y hs (Y_assign rfl ?_)
  refine O_nil (T_sub [(0, _), (1, _)] ⟨rfl, rfl, trivial⟩ ?_)
  refine T_seq (T_seq (T_region rfl ?_))
  refine O_y hs (Y_assign rfl ?_)
  refine O_nil (T_sub [(0, _), (1, _), (5, _)] ⟨rfl, rfl, rfl, trivial⟩ ?_)
  refine T_block (T_loop (fun m E w => ∃ (k : Nat) (G' : Ghost), k ≤ l.length ∧ (l.take k).contains x = false ∧ m = l.length - k ∧ E = ⟨[], [(0, (.slice A l.length cap)), (1, .int .u8 (x.toNat : Int)), (5, .int .i64 (k : Int))]⟩ ∧ St ⟨w0, G, feet []⟩ G' [] w) (L := [(0, _), (1, _), (5, _)]) ⟨rfl, rfl, rfl, trivial⟩ (⟨0, _, by omega, rfl, rfl, rfl, hs⟩) fun m E w hI => ?_)
  obtain ⟨k, G', hk, hc, rfl, rfl, hs⟩ := hI
  have hb := hb0.mono hs.le
  refine T_seq (T_seq (T_region rfl ?_))
  refine O_y hs (Y_move rfl ?_)
  refine O_y hs (Y_move rfl ?_)
  refine O_y hs (Y_len Tryz.underlying22 rfl ?_)
  refine O_y hs (Y_cmpS rfl rfl rfl (fun h9 => ?_) (fun h9 => ?_))
  · -- h9: True
    dsimp only [cmpP] at h9
    refine O_nil (T_sub [(0, _), (1, _), (5, _), (9, _)] ⟨rfl, rfl, rfl, rfl, trivial⟩ ?_)
    refine T_condT rfl (T_skip ?_)
    refine T_seq (T_block (T_seq (T_region rfl ?_)))
    refine O_y hs (Y_move rfl ?_)
    refine O_y hs (Y_move rfl ?_)
    refine O_y hs (Y_idxB hb k Tryz.underlying22 Tryz.sizeOf5 rfl rfl rfl (by omega) fun p14 hp14 => ?_)
    refine O_y hs (Y_ldG Tryz.isAgg5 rfl (hp14) ?_)
    refine O_y hs (Y_move rfl ?_)
    refine O_y hs (Y_cmpS rfl rfl rfl (fun h17 => ?_) (fun h17 => ?_))
    · -- h17: True
      dsimp only [cmpP] at h17
      refine O_nil (T_sub [(0, _), (1, _), (5, _), (17, _)] ⟨rfl, rfl, rfl, rfl, trivial⟩ ?_)
      refine T_condT rfl (T_seq (T_region rfl ?_))
      refine O_y hs (Y_assign rfl ?_)
      refine O_nil (T_sub [(4, _)] ⟨rfl, trivial⟩ ?_)
      refine T_ret ?_
      refine Rt_fin (vs := [_]) Tryz.results23 rfl ⟨rfl, trivial⟩ ?_
      try dsimp only [tup]
      exact ⟨_, [], hs.done, rfl, congrArg Value.bool (in_yes (k := k) (by omega) (u8i h17)).symm⟩
    · -- h17: False
      dsimp only [cmpP] at h17
      refine O_nil (T_sub [(0, _), (1, _), (5, _), (17, _)] ⟨rfl, rfl, rfl, rfl, trivial⟩ ?_)
      refine T_condF rfl (T_skip ?_)
      refine T_region rfl ?_
      refine O_y hs (Y_move rfl ?_)
      refine O_y hs (Y_add (c := ((k + 1 : Nat) : Int)) rfl rfl (by omega) (by omega) ?_)
      refine O_y hs (Y_assign rfl ?_)
      refine O_nil ⟨_, ?_, [(0, _), (1, _), (5, _)], ⟨rfl, rfl, rfl, trivial⟩, ⟨k + 1, _, by omega, in_no (by omega) hc (fun h => h17 (by rw [h])), rfl, rfl, hs⟩⟩
      omega
  · -- h9: False
    dsimp only [cmpP] at h9
    refine O_nil (T_sub [(0, _), (1, _), (5, _), (9, _)] ⟨rfl, rfl, rfl, rfl, trivial⟩ ?_)
    refine T_condF rfl (T_exit ?_)
    refine T_seq (T_region rfl ?_)
    refine O_y hs (Y_assign rfl ?_)
    refine O_nil (T_sub [(4, _)] ⟨rfl, trivial⟩ ?_)
    refine T_ret ?_
    refine Rt_fin (vs := [_]) Tryz.results23 rfl ⟨rfl, trivial⟩ ?_
    try dsimp only [tup]
    obtain rfl : k = l.length := by omega
    rw [List.take_length] at hc
    exact ⟨_, [], hs.done, rfl, congrArg Value.bool hc.symm⟩

set_option maxHeartbeats 400000 in
set_option maxRecDepth 10000 in
theorem letter_low {G : Ghost} {x : UInt8} :
    FnOk Tryz.prog 32 [.int .u8 (x.toNat : Int), .int .u8 65, .int .u8 97] G [] fun r _ H' => H' = [] ∧ r = .int .u8 ((lowerF x).toNat : Int) := by
  have hx := x.toNat_lt
  refine FnOk.of_T [(0, _), (1, _), (2, _)] Tryz.func32 rfl Tryz.ntmps32 (by simp) rfl fun w0 hs => ?_
  refine T_seq (T_region rfl ?_)
  refine O_y hs (Y_assign rfl ?_)
  refine O_nil (T_sub [(0, _), (1, _), (2, _)] ⟨rfl, rfl, rfl, trivial⟩ ?_)
  refine T_seq (T_seq (T_region rfl ?_))
  refine O_y hs (Y_move rfl ?_)
  refine O_y hs (Y_move rfl ?_)
  refine O_y hs (Y_cmpS rfl rfl rfl (fun h9 => ?_) (fun h9 => ?_))
  · -- h9: True
    dsimp only [cmpP] at h9
    refine O_y hs (Y_move rfl ?_)
    refine O_yy 10 hs rfl rfl (Y_move rfl ?_)
    refine O_yy 10 hs rfl rfl (Y_move rfl ?_)
    refine O_yy 10 hs rfl rfl (Y_addW rfl rfl ?_)
    refine O_yy 10 hs rfl rfl (Y_cmpS rfl rfl rfl (fun h14 => ?_) (fun h14 => ?_))
    · -- h14: True
      dsimp only [cmpP] at h14
      rw [show IntKind.u8.wrap (65 + 26) = 91 by decide] at h14
      refine O_y hs (Y_pickT rfl rfl ?_)
      refine O_nil (T_sub [(0, _), (1, _), (2, _), (15, _)] ⟨rfl, rfl, rfl, rfl, trivial⟩ ?_)
      refine T_condT rfl (T_seq (T_region rfl ?_))
      refine O_y hs (Y_move rfl ?_)
      refine O_y hs (Y_move rfl ?_)
      refine O_y hs (Y_subW rfl rfl ?_)
      refine O_y hs (Y_move rfl ?_)
      refine O_y hs (Y_addW rfl rfl ?_)
      refine O_y hs (Y_assign rfl ?_)
      refine O_nil (T_sub [(6, _)] ⟨rfl, trivial⟩ ?_)
      refine T_ret ?_
      refine Rt_fin (vs := [_]) Tryz.results32 rfl ⟨rfl, trivial⟩ ?_
      try dsimp only [tup]
      exact ⟨_, [], hs.done, rfl, congrArg (Value.int .u8) (by rw [IntKind.wrap_u8, IntKind.wrap_u8, lowerF_t (by omega)]; omega)⟩
    · -- h14: False
      dsimp only [cmpP] at h14
      rw [show IntKind.u8.wrap (65 + 26) = 91 by decide] at h14
      refine O_y hs (Y_pickT rfl rfl ?_)
      refine O_nil (T_sub [(0, _), (1, _), (2, _), (15, _)] ⟨rfl, rfl, rfl, rfl, trivial⟩ ?_)
      refine T_condF rfl (T_skip ?_)
      refine T_seq (T_region rfl ?_)
      refine O_y hs (Y_move rfl ?_)
      refine O_y hs (Y_assign rfl ?_)
      refine O_nil (T_sub [(6, _)] ⟨rfl, trivial⟩ ?_)
      refine T_ret ?_
      refine Rt_fin (vs := [_]) Tryz.results32 rfl ⟨rfl, trivial⟩ ?_
      try dsimp only [tup]
      exact ⟨_, [], hs.done, rfl, congrArg (Value.int .u8) (by rw [lowerF_f (by omega)])⟩
  · -- h9: False
    dsimp only [cmpP] at h9
    refine O_y hs (Y_move rfl ?_)
    refine O_no 10 rfl rfl ?_
    refine O_no 10 rfl rfl ?_
    refine O_no 10 rfl rfl ?_
    refine O_no 10 rfl rfl ?_
    refine O_y hs (Y_pickF rfl rfl ?_)
    refine O_nil (T_sub [(0, _), (1, _), (2, _), (15, _)] ⟨rfl, rfl, rfl, rfl, trivial⟩ ?_)
    refine T_condF rfl (T_skip ?_)
    refine T_seq (T_region rfl ?_)
    refine O_y hs (Y_move rfl ?_)
    refine O_y hs (Y_assign rfl ?_)
    refine O_nil (T_sub [(6, _)] ⟨rfl, trivial⟩ ?_)
    refine T_ret ?_
    refine Rt_fin (vs := [_]) Tryz.results32 rfl ⟨rfl, trivial⟩ ?_
    try dsimp only [tup]
    exact ⟨_, [], hs.done, rfl, congrArg (Value.int .u8) (by rw [lowerF_f (by omega)])⟩

set_option maxHeartbeats 400000 in
set_option maxRecDepth 10000 in
theorem letter_up {G : Ghost} {x : UInt8} :
    FnOk Tryz.prog 32 [.int .u8 (x.toNat : Int), .int .u8 97, .int .u8 65] G [] fun r _ H' => H' = [] ∧ r = .int .u8 ((upperF x).toNat : Int) := by
  have hx := x.toNat_lt
  refine FnOk.of_T [(0, _), (1, _), (2, _)] Tryz.func32 rfl Tryz.ntmps32 (by simp) rfl fun w0 hs => ?_
  refine T_seq (T_region rfl ?_)
  refine O_y hs (Y_assign rfl ?_)
  refine O_nil (T_sub [(0, _), (1, _), (2, _)] ⟨rfl, rfl, rfl, trivial⟩ ?_)
  refine T_seq (T_seq (T_region rfl ?_))
  refine O_y hs (Y_move rfl ?_)
  refine O_y hs (Y_move rfl ?_)
  refine O_y hs (Y_cmpS rfl rfl rfl (fun h9 => ?_) (fun h9 => ?_))
  · -- h9: True
    dsimp only [cmpP] at h9
    refine O_y hs (Y_move rfl ?_)
    refine O_yy 10 hs rfl rfl (Y_move rfl ?_)
    refine O_yy 10 hs rfl rfl (Y_move rfl ?_)
    refine O_yy 10 hs rfl rfl (Y_addW rfl rfl ?_)
    refine O_yy 10 hs rfl rfl (Y_cmpS rfl rfl rfl (fun h14 => ?_) (fun h14 => ?_))
    · -- h14: True
      dsimp only [cmpP] at h14
      rw [show IntKind.u8.wrap (97 + 26) = 123 by decide] at h14
      refine O_y hs (Y_pickT rfl rfl ?_)
      refine O_nil (T_sub [(0, _), (1, _), (2, _), (15, _)] ⟨rfl, rfl, rfl, rfl, trivial⟩ ?_)
      refine T_condT rfl (T_seq (T_region rfl ?_))
      refine O_y hs (Y_move rfl ?_)
      refine O_y hs (Y_move rfl ?_)
      refine O_y hs (Y_subW rfl rfl ?_)
      refine O_y hs (Y_move rfl ?_)
      refine O_y hs (Y_addW rfl rfl ?_)
      refine O_y hs (Y_assign rfl ?_)
      refine O_nil (T_sub [(6, _)] ⟨rfl, trivial⟩ ?_)
      refine T_ret ?_
      refine Rt_fin (vs := [_]) Tryz.results32 rfl ⟨rfl, trivial⟩ ?_
      try dsimp only [tup]
      exact ⟨_, [], hs.done, rfl, congrArg (Value.int .u8) (by rw [IntKind.wrap_u8, IntKind.wrap_u8, upperF_t (by omega)]; omega)⟩
    · -- h14: False
      dsimp only [cmpP] at h14
      rw [show IntKind.u8.wrap (97 + 26) = 123 by decide] at h14
      refine O_y hs (Y_pickT rfl rfl ?_)
      refine O_nil (T_sub [(0, _), (1, _), (2, _), (15, _)] ⟨rfl, rfl, rfl, rfl, trivial⟩ ?_)
      refine T_condF rfl (T_skip ?_)
      refine T_seq (T_region rfl ?_)
      refine O_y hs (Y_move rfl ?_)
      refine O_y hs (Y_assign rfl ?_)
      refine O_nil (T_sub [(6, _)] ⟨rfl, trivial⟩ ?_)
      refine T_ret ?_
      refine Rt_fin (vs := [_]) Tryz.results32 rfl ⟨rfl, trivial⟩ ?_
      try dsimp only [tup]
      exact ⟨_, [], hs.done, rfl, congrArg (Value.int .u8) (by rw [upperF_f (by omega)])⟩
  · -- h9: False
    dsimp only [cmpP] at h9
    refine O_y hs (Y_move rfl ?_)
    refine O_no 10 rfl rfl ?_
    refine O_no 10 rfl rfl ?_
    refine O_no 10 rfl rfl ?_
    refine O_no 10 rfl rfl ?_
    refine O_y hs (Y_pickF rfl rfl ?_)
    refine O_nil (T_sub [(0, _), (1, _), (2, _), (15, _)] ⟨rfl, rfl, rfl, rfl, trivial⟩ ?_)
    refine T_condF rfl (T_skip ?_)
    refine T_seq (T_region rfl ?_)
    refine O_y hs (Y_move rfl ?_)
    refine O_y hs (Y_assign rfl ?_)
    refine O_nil (T_sub [(6, _)] ⟨rfl, trivial⟩ ?_)
    refine T_ret ?_
    refine Rt_fin (vs := [_]) Tryz.results32 rfl ⟨rfl, trivial⟩ ?_
    try dsimp only [tup]
    exact ⟨_, [], hs.done, rfl, congrArg (Value.int .u8) (by rw [upperF_f (by omega)])⟩

set_option maxHeartbeats 400000 in
set_option maxRecDepth 10000 in
theorem join_ok {G : Ghost} {va vb : Value} {a b : List UInt8} (ha : Bytes G va a) (hb : Bytes G vb b) (hal : a.length ≤ 1000000000) (hbl : b.length ≤ 1000000000) :
    FnOk Tryz.prog 22 [va, vb] G [] fun r G' H' => H' = [] ∧ Bytes G' r (a ++ b) := by
  obtain ⟨A1, c1, rfl, _⟩ := id ha
  obtain ⟨A, cap, rfl, _⟩ := id hb
  refine FnOk.of_T [(0, _), (1, _)] Tryz.func22 rfl Tryz.ntmps22 (by simp) rfl fun w0 hs => ?_
  have ha0 := ha
  have hb0 := hb
  refine T_seq (T_region rfl ?_)
  refine O_y hs (Y_assign rfl ?_)
  refine O_nil (T_sub [(0, _), (1, _)] ⟨rfl, rfl, trivial⟩ ?_)
  refine T_seq (T_region rfl ?_)
  refine O_y hs (Y_move rfl ?_)
  refine O_s (S_call (H1 := []) hs rfl Tryz.func27 rfl (by kernel_rfl) (copy_ok ha (by omega)) fun v1 G' H' _ hR hG8 hs => ?_)
  obtain rfl := hR
  replace hs : St _ _ [_] _ := hs
  replace ha := ha.mono hG8
  replace hb := hb.mono hG8
  refine O_y hs (Y_assign rfl ?_)
  refine O_nil (T_sub [(1, _), (5, _)] ⟨rfl, rfl, trivial⟩ ?_)
  refine T_seq (T_seq (T_region rfl ?_))
  refine O_y hs (Y_assign rfl ?_)
  refine O_nil (T_sub [(1, _), (5, _), (6, _)] ⟨rfl, rfl, rfl, trivial⟩ ?_)
  refine T_block (T_loop (fun m E w => ∃ (k : Nat) (v5 : Value) (G' : Ghost), k ≤ b.length ∧ m = b.length - k ∧ E = ⟨[], [(1, (.slice A b.length cap)), (5, v5), (6, .int .i64 (k : Int))]⟩ ∧ St ⟨w0, G, feet []⟩ G' [.row 5 1 v5 (a ++ b.take k).length ((a ++ b.take k).map byteV)] w) (L := [(1, _), (5, _), (6, _)]) ⟨rfl, rfl, rfl, trivial⟩ (⟨0, _, _, by omega, rfl, rfl, by rw [List.take_zero, List.append_nil]; exact hs⟩) fun m E w hI => ?_)
  obtain ⟨k, v5, G', hk, rfl, rfl, hs⟩ := hI
  have ha := ha0.mono hs.le
  have hb := hb0.mono hs.le
  refine T_seq (T_seq (T_region rfl ?_))
  refine O_y hs (Y_move rfl ?_)
  refine O_y hs (Y_move rfl ?_)
  refine O_y hs (Y_len Tryz.underlying22 rfl ?_)
  refine O_y hs (Y_cmpS rfl rfl rfl (fun h12 => ?_) (fun h12 => ?_))
  · -- h12: True
    dsimp only [cmpP] at h12
    refine O_nil (T_sub [(1, _), (5, _), (6, _), (12, _)] ⟨rfl, rfl, rfl, rfl, trivial⟩ ?_)
    refine T_condT rfl (T_skip ?_)
    refine T_seq (T_block (T_region rfl ?_))
    refine O_y hs (Y_move rfl ?_)
    refine O_y hs (Y_move rfl ?_)
    refine O_y hs (Y_move rfl ?_)
    refine O_y hs (Y_idxB hb k Tryz.underlying22 Tryz.sizeOf5 rfl rfl rfl (by omega) fun p18 hp18 => ?_)
    refine O_y hs (Y_ldG Tryz.isAgg5 rfl (hp18) ?_)
    refine O_s (S_lit hs Tryz.underlying22 Tryz.sizeOf5 Tryz.zeroValue5 rfl rfl (by decide) (by decide) rfl (cs := [_]) rfl rfl fun v2 _ hs _ => ?_)
    obtain ⟨_, hG20, hl20, hs⟩ := hs.fixRow noM
    replace ha := ha.mono hG20
    replace hb := hb.mono hG20
    refine O_s (S_append hs Tryz.underlying22 TI5 rfl (by decide) rfl rfl (hl20) (one1 rfl) (by simp only [List.length_append, List.length_take]; omega) (by simp only [List.length_append, List.length_take]; omega) fun v3 _ hs => ?_)
    refine O_y hs (Y_assign rfl ?_)
    refine O_nil (T_sub [(1, _), (5, _), (6, _)] ⟨rfl, rfl, rfl, trivial⟩ ?_)
    refine T_region rfl ?_
    refine O_y hs (Y_move rfl ?_)
    refine O_y hs (Y_add (c := ((k + 1 : Nat) : Int)) rfl rfl (by omega) (by omega) ?_)
    refine O_y hs (Y_assign rfl ?_)
    refine O_nil ⟨_, ?_, [(1, _), (5, _), (6, _)], ⟨rfl, rfl, rfl, trivial⟩, ⟨k + 1, _, _, by omega, rfl, rfl, by rw [takec b k (by omega), ← List.append_assoc, List.length_append, List.map_append]; exact hs⟩⟩
    omega
  · -- h12: False
    dsimp only [cmpP] at h12
    refine O_nil (T_sub [(1, _), (5, _), (6, _), (12, _)] ⟨rfl, rfl, rfl, rfl, trivial⟩ ?_)
    refine T_condF rfl (T_exit ?_)
    refine T_seq (T_region rfl ?_)
    refine O_y hs (Y_move rfl ?_)
    refine O_y hs (Y_assign rfl ?_)
    refine O_nil (T_sub [(4, _)] ⟨rfl, trivial⟩ ?_)
    refine T_ret ?_
    refine Rt_fin (vs := [_]) Tryz.results22 rfl ⟨rfl, trivial⟩ ?_
    try dsimp only [tup]
    obtain rfl : k = b.length := by omega
    rw [List.take_length] at hs
    obtain ⟨G', hG, hf, hs3⟩ := hs.fixRow noM
    exact ⟨G', [], hs3, rfl, hf⟩

set_option maxHeartbeats 400000 in
set_option maxRecDepth 10000 in
theorem percent_t {G : Ghost} {v : Value} {b : List UInt8} (hb : Bytes G v b) (hl : b.length ≤ 1000000000) :
    FnOk Tryz.prog 29 [v, .bool true] G [] fun r G' H' => H' = [] ∧ ∃ u, r = .tuple #[u, .bool (percF true 0 b).isSome] ∧ Bytes G' u ((percF true 0 b).getD []) := by
  obtain ⟨A, cap, rfl, _⟩ := id hb
  refine FnOk.of_T [(0, _), (1, _)] Tryz.func29 rfl Tryz.ntmps29 (by simp) rfl fun w0 hs => ?_
  have hb0 := hb
  refine T_seq (T_region rfl ?_)
  refine O_y hs (Y_assign rfl ?_)
  refine O_y hs (Y_assign rfl ?_)
  refine O_nil (T_sub [(0, _), (1, _)] ⟨rfl, rfl, trivial⟩ ?_)
  refine T_seq (T_region rfl ?_)
  refine O_s (S_lit hs Tryz.underlying22 Tryz.sizeOf5 Tryz.zeroValue5 rfl rfl (by decide) (by decide) rfl (cs := []) rfl rfl fun v1 _ hs _ => ?_)
  refine O_y hs (Y_assign rfl ?_)
  refine O_nil (T_sub [(0, _), (1, _), (6, _)] ⟨rfl, rfl, rfl, trivial⟩ ?_)
  refine T_seq (T_seq (T_region rfl ?_))
  refine O_y hs (Y_assign rfl ?_)
  refine O_nil (T_sub [(0, _), (1, _), (6, _), (7, _)] ⟨rfl, rfl, rfl, rfl, trivial⟩ ?_)
  refine T_block (T_loop (fun m E w => ∃ (i : Nat) (out : List UInt8) (v6 : Value) (G' : Ghost), i ≤ b.length ∧ out.length ≤ i ∧ percF true 0 b = (percF true 0 (b.drop i)).map (out ++ ·) ∧ m = b.length - i ∧ E = ⟨[], [(0, (.slice A b.length cap)), (1, .bool true), (6, v6), (7, .int .i64 (i : Int))]⟩ ∧ St ⟨w0, G, feet []⟩ G' [.row 5 1 v6 out.length (out.map byteV)] w) (L := [(0, _), (1, _), (6, _), (7, _)]) ⟨rfl, rfl, rfl, rfl, trivial⟩ (⟨0, [], _, _, by omega, by simp, by simp, rfl, rfl, hs⟩) fun m E w hI => ?_)
  obtain ⟨i, out, v6, G', hi, hol, hp, rfl, rfl, hs⟩ := hI
  have hb := hb0.mono hs.le
  refine T_seq (T_seq (T_region rfl ?_))
  refine O_y hs (Y_move rfl ?_)
  refine O_y hs (Y_move rfl ?_)
  refine O_y hs (Y_len Tryz.underlying22 rfl ?_)
  refine O_y hs (Y_cmpS rfl rfl rfl (fun h12 => ?_) (fun h12 => ?_))
  · -- h12: True
    dsimp only [cmpP] at h12
    refine O_nil (T_sub [(0, _), (1, _), (6, _), (7, _), (12, _)] ⟨rfl, rfl, rfl, rfl, rfl, trivial⟩ ?_)
    refine T_condT rfl (T_skip ?_)
    refine T_seq (T_block (T_seq (T_seq (T_region rfl ?_))))
    refine O_y hs (Y_move rfl ?_)
    refine O_y hs (Y_move rfl ?_)
    refine O_y hs (Y_idxB hb i Tryz.underlying22 Tryz.sizeOf5 rfl rfl rfl (by omega) fun p17 hp17 => ?_)
    refine O_y hs (Y_ldG Tryz.isAgg5 rfl (hp17) ?_)
    refine O_y hs (Y_cmpS rfl rfl rfl (fun h19 => ?_) (fun h19 => ?_))
    · -- h19: True
      dsimp only [cmpP] at h19
      refine O_y hs (Y_move rfl ?_)
      refine O_yy 20 hs rfl rfl (Y_move rfl ?_)
      refine O_yy 20 hs rfl rfl (Y_add (c := ((i + 2 : Nat) : Int)) rfl rfl (by omega) (by omega) ?_)
      refine O_yy 20 hs rfl rfl (Y_move rfl ?_)
      refine O_yy 20 hs rfl rfl (Y_len Tryz.underlying22 rfl ?_)
      refine O_yy 20 hs rfl rfl (Y_cmpS rfl rfl rfl (fun h25 => ?_) (fun h25 => ?_))
      · -- h25: True
        dsimp only [cmpP] at h25
        refine O_y hs (Y_pickT rfl rfl ?_)
        refine O_y hs (Y_move rfl ?_)
        refine O_yy 27 hs rfl rfl (Y_move rfl ?_)
        refine O_yy 27 hs rfl rfl (Y_move rfl ?_)
        refine O_yy 27 hs rfl rfl (Y_add (c := ((i + 1 : Nat) : Int)) rfl rfl (by omega) (by omega) ?_)
        refine O_yy 27 hs rfl rfl (Y_idxB hb (i + 1) Tryz.underlying22 Tryz.sizeOf5 rfl rfl rfl (by omega) fun p31 hp31 => ?_)
        refine O_yy 27 hs rfl rfl (Y_ldG Tryz.isAgg5 rfl (hp31) ?_)
        refine O_yes 27 rfl rfl (S_call (H1 := []) hs rfl Tryz.func65 rfl (by kernel_rfl) (dig_ok (x := (b[i + 1]'(by omega)))) fun v2 G' H' _ hR hG33 hs => ?_)
        obtain ⟨rfl, rfl⟩ := hR
        replace hs : St _ _ [_] _ := hs
        replace hb := hb.mono hG33
        refine O_yy 27 hs rfl rfl (Y_cmpS rfl rfl rfl (fun h34 => ?_) (fun h34 => ?_))
        · -- h34: True
          dsimp only [cmpP] at h34
          refine O_y hs (Y_pickT rfl rfl ?_)
          refine O_y hs (Y_move rfl ?_)
          refine O_yy 36 hs rfl rfl (Y_move rfl ?_)
          refine O_yy 36 hs rfl rfl (Y_move rfl ?_)
          refine O_yy 36 hs rfl rfl (Y_add (c := ((i + 2 : Nat) : Int)) rfl rfl (by omega) (by omega) ?_)
          refine O_yy 36 hs rfl rfl (Y_idxB hb (i + 2) Tryz.underlying22 Tryz.sizeOf5 rfl rfl rfl (by omega) fun p40 hp40 => ?_)
          refine O_yy 36 hs rfl rfl (Y_ldG Tryz.isAgg5 rfl (hp40) ?_)
          refine O_yes 36 rfl rfl (S_call (H1 := []) hs rfl Tryz.func65 rfl (by kernel_rfl) (dig_ok (x := (b[i + 2]'(by omega)))) fun v3 G' H' _ hR hG42 hs => ?_)
          obtain ⟨rfl, rfl⟩ := hR
          replace hs : St _ _ [_] _ := hs
          replace hb := hb.mono hG42
          refine O_yy 36 hs rfl rfl (Y_cmpS rfl rfl rfl (fun h43 => ?_) (fun h43 => ?_))
          · -- h43: True
            dsimp only [cmpP] at h43
            refine O_y hs (Y_pickT rfl rfl ?_)
            refine O_nil (T_sub [(0, _), (1, _), (6, _), (7, _), (44, _)] ⟨rfl, rfl, rfl, rfl, rfl, trivial⟩ ?_)
            refine T_condT rfl (T_seq (T_drawS [0, 1, 2, 3, 4, 5, 6, 7, 8, 9, 10, 11, 12, 13, 14, 15, 16] hs (by kernel_rfl) ?_))
            replace hs := hs.drew
            refine A_take 0 rfl (by kernel_rfl) rfl hs (Y_move rfl ?_)
            refine A_take 1 rfl (by kernel_rfl) rfl hs (Y_move rfl ?_)
            refine A_take 2 rfl (by kernel_rfl) rfl hs (Y_move rfl ?_)
            refine A_take 3 rfl (by kernel_rfl) rfl hs (Y_add (c := ((i + 1 : Nat) : Int)) rfl rfl (by omega) (by omega) ?_)
            refine A_take 4 rfl (by kernel_rfl) rfl hs (Y_idxB hb (i + 1) Tryz.underlying22 Tryz.sizeOf5 rfl rfl rfl (by omega) fun p49 hp49 => ?_)
            refine A_take 5 rfl (by kernel_rfl) rfl hs (Y_ldG Tryz.isAgg5 rfl (hp49) ?_)
            refine A_take 8 rfl (by kernel_rfl) rfl hs (Y_move rfl ?_)
            refine A_take 9 rfl (by kernel_rfl) rfl hs (Y_move rfl ?_)
            refine A_take 10 rfl (by kernel_rfl) rfl hs (Y_add (c := ((i + 2 : Nat) : Int)) rfl rfl (by omega) (by omega) ?_)
            refine A_take 11 rfl (by kernel_rfl) rfl hs (Y_idxB hb (i + 2) Tryz.underlying22 Tryz.sizeOf5 rfl rfl rfl (by omega) fun p56 hp56 => ?_)
            refine A_take 12 rfl (by kernel_rfl) rfl hs (Y_ldG Tryz.isAgg5 rfl (hp56) ?_)
            have hle := hs.le
            refine A_only 6 rfl (by kernel_rfl) rfl (S_call (H1 := []) hs rfl Tryz.func65 rfl (by kernel_rfl) (dig_ok (x := (b[i + 1]'(by omega)))) fun v4 G' H' _ hR hG51 hs => ?_)
            obtain ⟨rfl, rfl⟩ := hR
            replace hs : St _ _ [_] _ := hs
            replace hb := hb.mono hG51
            refine A_moreS hs hle hG51 (List.Sublist.refl _) ?_
            refine A_take 7 rfl (by kernel_rfl) rfl hs (Y_mul (c := (16 * digV (b[i + 1]'(by omega)))) rfl rfl (rfl) (by have := dig_le (b[i + 1]'(by omega)); omega) ?_)
            have hle := hs.le
            refine A_only 13 rfl (by kernel_rfl) rfl (S_call (H1 := []) hs rfl Tryz.func65 rfl (by kernel_rfl) (dig_ok (x := (b[i + 2]'(by omega)))) fun v5 G' H' _ hR hG58 hs => ?_)
            obtain ⟨rfl, rfl⟩ := hR
            replace hs : St _ _ [_] _ := hs
            replace hb := hb.mono hG58
            refine A_moreS hs hle hG58 (List.Sublist.refl _) ?_
            refine A_take 14 rfl (by kernel_rfl) rfl hs (Y_add (c := (16 * digV (b[i + 1]'(by omega)) + digV (b[i + 2]'(by omega)))) rfl rfl (rfl) (by have := dig_le (b[i + 1]'(by omega)); have := dig_le (b[i + 2]'(by omega)); omega) ?_)
            refine A_take 15 rfl (by kernel_rfl) rfl hs (Y_conv Tryz.underlying3 Tryz.underlying5 (c := ((16 * (hexF (b[i + 1]'(by omega))).getD 0 + (hexF (b[i + 2]'(by omega))).getD 0).toNat : Int)) rfl (dig_join (by omega) (by omega)) ?_)
            have hle := hs.le
            refine A_only 16 rfl (by kernel_rfl) rfl (S_lit hs Tryz.underlying22 Tryz.sizeOf5 Tryz.zeroValue5 rfl rfl (by decide) (by decide) rfl (cs := [_]) rfl rfl fun v6 _ hs _ => ?_)
            obtain ⟨_, hG61, hl61, hs⟩ := hs.fixRow noM
            replace hb := hb.mono hG61
            refine A_moreS hs hle hG61 (List.Sublist.refl _) ?_
            refine A_tail 17 rfl (by kernel_rfl) (by kernel_rfl) rfl (S_append hs Tryz.underlying22 TI5 rfl (by decide) rfl rfl (hl61) (one1 rfl) (by omega) (by omega) fun v7 _ hs => ?_)
            refine A_tail 18 rfl (by kernel_rfl) (by kernel_rfl) rfl (S_y hs rfl (Y_assign rfl ?_))
            refine A_done (by kernel_rfl) (T_sub [(0, _), (1, _), (6, _), (7, _)] ⟨rfl, rfl, rfl, rfl, trivial⟩ ?_)
            refine T_seq (T_region rfl ?_)
            refine O_y hs (Y_move rfl ?_)
            refine O_y hs (Y_add (c := ((i + 2 : Nat) : Int)) rfl rfl (by omega) (by omega) ?_)
            refine O_y hs (Y_assign rfl ?_)
            refine O_nil (T_sub [(0, _), (1, _), (6, _), (7, _)] ⟨rfl, rfl, rfl, rfl, trivial⟩ ?_)
            refine T_exit ?_
            refine T_region rfl ?_
            refine O_y hs (Y_move rfl ?_)
            refine O_y hs (Y_add (c := ((i + 2 + 1 : Nat) : Int)) rfl rfl (by omega) (by omega) ?_)
            refine O_y hs (Y_assign rfl ?_)
            refine O_nil ⟨_, ?_, [(0, _), (1, _), (6, _), (7, _)], ⟨rfl, rfl, rfl, rfl, trivial⟩, ⟨i + 2 + 1, out ++ [16 * (hexF (b[i + 1]'(by omega))).getD 0 + (hexF (b[i + 2]'(by omega))).getD 0], _, _, by omega, by simp only [List.length_append, List.length_cons, List.length_nil]; omega, p_step hp (p_pair (by omega) h19 (by omega) (by omega)), rfl, rfl, by rw [List.length_append, List.map_append]; exact hs⟩⟩
            omega
          · -- h43: False
            dsimp only [cmpP] at h43
            refine O_y hs (Y_pickT rfl rfl ?_)
            refine O_nil (T_sub [(0, _), (1, _), (6, _), (7, _), (44, _)] ⟨rfl, rfl, rfl, rfl, rfl, trivial⟩ ?_)
            refine T_condF rfl (T_skip ?_)
            refine T_seq (T_seq (T_region rfl ?_))
            refine O_y hs (Y_move rfl ?_)
            refine O_y hs (Y_move rfl ?_)
            refine O_y hs (Y_idxB hb i Tryz.underlying22 Tryz.sizeOf5 rfl rfl rfl (by omega) fun p67 hp67 => ?_)
            refine O_y hs (Y_ldG Tryz.isAgg5 rfl (hp67) ?_)
            refine O_y hs (Y_cmpT rfl rfl rfl (h19) ?_)
            refine O_y hs (Y_move rfl ?_)
            refine O_yy 70 hs rfl rfl (Y_move rfl ?_)
            refine O_yy 70 hs rfl rfl (Y_not rfl ?_)
            refine O_y hs (Y_pickT rfl rfl ?_)
            refine O_nil (T_sub [(0, _), (1, _), (6, _), (7, _), (73, _)] ⟨rfl, rfl, rfl, rfl, rfl, trivial⟩ ?_)
            refine T_condF rfl (T_skip ?_)
            refine T_region rfl ?_
            refine O_y hs (Y_move rfl ?_)
            refine O_y hs (Y_move rfl ?_)
            refine O_y hs (Y_move rfl ?_)
            refine O_y hs (Y_idxB hb i Tryz.underlying22 Tryz.sizeOf5 rfl rfl rfl (by omega) fun p77 hp77 => ?_)
            refine O_y hs (Y_ldG Tryz.isAgg5 rfl (hp77) ?_)
            refine O_s (S_lit hs Tryz.underlying22 Tryz.sizeOf5 Tryz.zeroValue5 rfl rfl (by decide) (by decide) rfl (cs := [_]) rfl rfl fun v8 _ hs _ => ?_)
            obtain ⟨_, hG79, hl79, hs⟩ := hs.fixRow noM
            replace hb := hb.mono hG79
            refine O_s (S_append hs Tryz.underlying22 TI5 rfl (by decide) rfl rfl (hl79) (one1 rfl) (by omega) (by omega) fun v9 _ hs => ?_)
            refine O_y hs (Y_assign rfl ?_)
            refine O_nil (T_sub [(0, _), (1, _), (6, _), (7, _)] ⟨rfl, rfl, rfl, rfl, trivial⟩ ?_)
            refine T_region rfl ?_
            refine O_y hs (Y_move rfl ?_)
            refine O_y hs (Y_add (c := ((i + 1 : Nat) : Int)) rfl rfl (by omega) (by omega) ?_)
            refine O_y hs (Y_assign rfl ?_)
            refine O_nil ⟨_, ?_, [(0, _), (1, _), (6, _), (7, _)], ⟨rfl, rfl, rfl, rfl, trivial⟩, ⟨i + 1, out ++ [(b[i]'(by omega))], _, _, by omega, by simp only [List.length_append, List.length_cons, List.length_nil]; omega, p_step hp (p_lax (by omega) h19 (by rintro ⟨h2, h3, h4⟩; omega)), rfl, rfl, by rw [List.length_append, List.map_append]; exact hs⟩⟩
            omega
        · -- h34: False
          dsimp only [cmpP] at h34
          refine O_y hs (Y_pickT rfl rfl ?_)
          refine O_y hs (Y_move rfl ?_)
          refine O_no 36 rfl rfl ?_
          refine O_no 36 rfl rfl ?_
          refine O_no 36 rfl rfl ?_
          refine O_no 36 rfl rfl ?_
          refine O_no 36 rfl rfl ?_
          refine O_no 36 rfl rfl ?_
          refine O_no 36 rfl rfl ?_
          refine O_y hs (Y_pickF rfl rfl ?_)
          refine O_nil (T_sub [(0, _), (1, _), (6, _), (7, _), (44, _)] ⟨rfl, rfl, rfl, rfl, rfl, trivial⟩ ?_)
          refine T_condF rfl (T_skip ?_)
          refine T_seq (T_seq (T_region rfl ?_))
          refine O_y hs (Y_move rfl ?_)
          refine O_y hs (Y_move rfl ?_)
          refine O_y hs (Y_idxB hb i Tryz.underlying22 Tryz.sizeOf5 rfl rfl rfl (by omega) fun p67 hp67 => ?_)
          refine O_y hs (Y_ldG Tryz.isAgg5 rfl (hp67) ?_)
          refine O_y hs (Y_cmpT rfl rfl rfl (h19) ?_)
          refine O_y hs (Y_move rfl ?_)
          refine O_yy 70 hs rfl rfl (Y_move rfl ?_)
          refine O_yy 70 hs rfl rfl (Y_not rfl ?_)
          refine O_y hs (Y_pickT rfl rfl ?_)
          refine O_nil (T_sub [(0, _), (1, _), (6, _), (7, _), (73, _)] ⟨rfl, rfl, rfl, rfl, rfl, trivial⟩ ?_)
          refine T_condF rfl (T_skip ?_)
          refine T_region rfl ?_
          refine O_y hs (Y_move rfl ?_)
          refine O_y hs (Y_move rfl ?_)
          refine O_y hs (Y_move rfl ?_)
          refine O_y hs (Y_idxB hb i Tryz.underlying22 Tryz.sizeOf5 rfl rfl rfl (by omega) fun p77 hp77 => ?_)
          refine O_y hs (Y_ldG Tryz.isAgg5 rfl (hp77) ?_)
          refine O_s (S_lit hs Tryz.underlying22 Tryz.sizeOf5 Tryz.zeroValue5 rfl rfl (by decide) (by decide) rfl (cs := [_]) rfl rfl fun v10 _ hs _ => ?_)
          obtain ⟨_, hG79, hl79, hs⟩ := hs.fixRow noM
          replace hb := hb.mono hG79
          refine O_s (S_append hs Tryz.underlying22 TI5 rfl (by decide) rfl rfl (hl79) (one1 rfl) (by omega) (by omega) fun v11 _ hs => ?_)
          refine O_y hs (Y_assign rfl ?_)
          refine O_nil (T_sub [(0, _), (1, _), (6, _), (7, _)] ⟨rfl, rfl, rfl, rfl, trivial⟩ ?_)
          refine T_region rfl ?_
          refine O_y hs (Y_move rfl ?_)
          refine O_y hs (Y_add (c := ((i + 1 : Nat) : Int)) rfl rfl (by omega) (by omega) ?_)
          refine O_y hs (Y_assign rfl ?_)
          refine O_nil ⟨_, ?_, [(0, _), (1, _), (6, _), (7, _)], ⟨rfl, rfl, rfl, rfl, trivial⟩, ⟨i + 1, out ++ [(b[i]'(by omega))], _, _, by omega, by simp only [List.length_append, List.length_cons, List.length_nil]; omega, p_step hp (p_lax (by omega) h19 (by rintro ⟨h2, h3, h4⟩; omega)), rfl, rfl, by rw [List.length_append, List.map_append]; exact hs⟩⟩
          omega
      · -- h25: False
        dsimp only [cmpP] at h25
        refine O_y hs (Y_pickT rfl rfl ?_)
        refine O_y hs (Y_move rfl ?_)
        refine O_no 27 rfl rfl ?_
        refine O_no 27 rfl rfl ?_
        refine O_no 27 rfl rfl ?_
        refine O_no 27 rfl rfl ?_
        refine O_no 27 rfl rfl ?_
        refine O_no 27 rfl rfl ?_
        refine O_no 27 rfl rfl ?_
        refine O_y hs (Y_pickF rfl rfl ?_)
        refine O_y hs (Y_move rfl ?_)
        refine O_no 36 rfl rfl ?_
        refine O_no 36 rfl rfl ?_
        refine O_no 36 rfl rfl ?_
        refine O_no 36 rfl rfl ?_
        refine O_no 36 rfl rfl ?_
        refine O_no 36 rfl rfl ?_
        refine O_no 36 rfl rfl ?_
        refine O_y hs (Y_pickF rfl rfl ?_)
        refine O_nil (T_sub [(0, _), (1, _), (6, _), (7, _), (44, _)] ⟨rfl, rfl, rfl, rfl, rfl, trivial⟩ ?_)
        refine T_condF rfl (T_skip ?_)
        refine T_seq (T_seq (T_region rfl ?_))
        refine O_y hs (Y_move rfl ?_)
        refine O_y hs (Y_move rfl ?_)
        refine O_y hs (Y_idxB hb i Tryz.underlying22 Tryz.sizeOf5 rfl rfl rfl (by omega) fun p67 hp67 => ?_)
        refine O_y hs (Y_ldG Tryz.isAgg5 rfl (hp67) ?_)
        refine O_y hs (Y_cmpT rfl rfl rfl (h19) ?_)
        refine O_y hs (Y_move rfl ?_)
        refine O_yy 70 hs rfl rfl (Y_move rfl ?_)
        refine O_yy 70 hs rfl rfl (Y_not rfl ?_)
        refine O_y hs (Y_pickT rfl rfl ?_)
        refine O_nil (T_sub [(0, _), (1, _), (6, _), (7, _), (73, _)] ⟨rfl, rfl, rfl, rfl, rfl, trivial⟩ ?_)
        refine T_condF rfl (T_skip ?_)
        refine T_region rfl ?_
        refine O_y hs (Y_move rfl ?_)
        refine O_y hs (Y_move rfl ?_)
        refine O_y hs (Y_move rfl ?_)
        refine O_y hs (Y_idxB hb i Tryz.underlying22 Tryz.sizeOf5 rfl rfl rfl (by omega) fun p77 hp77 => ?_)
        refine O_y hs (Y_ldG Tryz.isAgg5 rfl (hp77) ?_)
        refine O_s (S_lit hs Tryz.underlying22 Tryz.sizeOf5 Tryz.zeroValue5 rfl rfl (by decide) (by decide) rfl (cs := [_]) rfl rfl fun v12 _ hs _ => ?_)
        obtain ⟨_, hG79, hl79, hs⟩ := hs.fixRow noM
        replace hb := hb.mono hG79
        refine O_s (S_append hs Tryz.underlying22 TI5 rfl (by decide) rfl rfl (hl79) (one1 rfl) (by omega) (by omega) fun v13 _ hs => ?_)
        refine O_y hs (Y_assign rfl ?_)
        refine O_nil (T_sub [(0, _), (1, _), (6, _), (7, _)] ⟨rfl, rfl, rfl, rfl, trivial⟩ ?_)
        refine T_region rfl ?_
        refine O_y hs (Y_move rfl ?_)
        refine O_y hs (Y_add (c := ((i + 1 : Nat) : Int)) rfl rfl (by omega) (by omega) ?_)
        refine O_y hs (Y_assign rfl ?_)
        refine O_nil ⟨_, ?_, [(0, _), (1, _), (6, _), (7, _)], ⟨rfl, rfl, rfl, rfl, trivial⟩, ⟨i + 1, out ++ [(b[i]'(by omega))], _, _, by omega, by simp only [List.length_append, List.length_cons, List.length_nil]; omega, p_step hp (p_lax (by omega) h19 (by rintro ⟨h2, h3, h4⟩; omega)), rfl, rfl, by rw [List.length_append, List.map_append]; exact hs⟩⟩
        omega
    · -- h19: False
      dsimp only [cmpP] at h19
      refine O_y hs (Y_move rfl ?_)
      refine O_no 20 rfl rfl ?_
      refine O_no 20 rfl rfl ?_
      refine O_no 20 rfl rfl ?_
      refine O_no 20 rfl rfl ?_
      refine O_no 20 rfl rfl ?_
      refine O_y hs (Y_pickF rfl rfl ?_)
      refine O_y hs (Y_move rfl ?_)
      refine O_no 27 rfl rfl ?_
      refine O_no 27 rfl rfl ?_
      refine O_no 27 rfl rfl ?_
      refine O_no 27 rfl rfl ?_
      refine O_no 27 rfl rfl ?_
      refine O_no 27 rfl rfl ?_
      refine O_no 27 rfl rfl ?_
      refine O_y hs (Y_pickF rfl rfl ?_)
      refine O_y hs (Y_move rfl ?_)
      refine O_no 36 rfl rfl ?_
      refine O_no 36 rfl rfl ?_
      refine O_no 36 rfl rfl ?_
      refine O_no 36 rfl rfl ?_
      refine O_no 36 rfl rfl ?_
      refine O_no 36 rfl rfl ?_
      refine O_no 36 rfl rfl ?_
      refine O_y hs (Y_pickF rfl rfl ?_)
      refine O_nil (T_sub [(0, _), (1, _), (6, _), (7, _), (44, _)] ⟨rfl, rfl, rfl, rfl, rfl, trivial⟩ ?_)
      refine T_condF rfl (T_skip ?_)
      refine T_seq (T_seq (T_region rfl ?_))
      refine O_y hs (Y_move rfl ?_)
      refine O_y hs (Y_move rfl ?_)
      refine O_y hs (Y_idxB hb i Tryz.underlying22 Tryz.sizeOf5 rfl rfl rfl (by omega) fun p67 hp67 => ?_)
      refine O_y hs (Y_ldG Tryz.isAgg5 rfl (hp67) ?_)
      refine O_y hs (Y_cmpF rfl rfl rfl (h19) ?_)
      refine O_y hs (Y_move rfl ?_)
      refine O_no 70 rfl rfl ?_
      refine O_no 70 rfl rfl ?_
      refine O_y hs (Y_pickF rfl rfl ?_)
      refine O_nil (T_sub [(0, _), (1, _), (6, _), (7, _), (73, _)] ⟨rfl, rfl, rfl, rfl, rfl, trivial⟩ ?_)
      refine T_condF rfl (T_skip ?_)
      refine T_region rfl ?_
      refine O_y hs (Y_move rfl ?_)
      refine O_y hs (Y_move rfl ?_)
      refine O_y hs (Y_move rfl ?_)
      refine O_y hs (Y_idxB hb i Tryz.underlying22 Tryz.sizeOf5 rfl rfl rfl (by omega) fun p77 hp77 => ?_)
      refine O_y hs (Y_ldG Tryz.isAgg5 rfl (hp77) ?_)
      refine O_s (S_lit hs Tryz.underlying22 Tryz.sizeOf5 Tryz.zeroValue5 rfl rfl (by decide) (by decide) rfl (cs := [_]) rfl rfl fun v14 _ hs _ => ?_)
      obtain ⟨_, hG79, hl79, hs⟩ := hs.fixRow noM
      replace hb := hb.mono hG79
      refine O_s (S_append hs Tryz.underlying22 TI5 rfl (by decide) rfl rfl (hl79) (one1 rfl) (by omega) (by omega) fun v15 _ hs => ?_)
      refine O_y hs (Y_assign rfl ?_)
      refine O_nil (T_sub [(0, _), (1, _), (6, _), (7, _)] ⟨rfl, rfl, rfl, rfl, trivial⟩ ?_)
      refine T_region rfl ?_
      refine O_y hs (Y_move rfl ?_)
      refine O_y hs (Y_add (c := ((i + 1 : Nat) : Int)) rfl rfl (by omega) (by omega) ?_)
      refine O_y hs (Y_assign rfl ?_)
      refine O_nil ⟨_, ?_, [(0, _), (1, _), (6, _), (7, _)], ⟨rfl, rfl, rfl, rfl, trivial⟩, ⟨i + 1, out ++ [(b[i]'(by omega))], _, _, by omega, by simp only [List.length_append, List.length_cons, List.length_nil]; omega, p_step hp (p_other (by omega) h19), rfl, rfl, by rw [List.length_append, List.map_append]; exact hs⟩⟩
      omega
  · -- h12: False
    dsimp only [cmpP] at h12
    refine O_nil (T_sub [(0, _), (1, _), (6, _), (7, _), (12, _)] ⟨rfl, rfl, rfl, rfl, rfl, trivial⟩ ?_)
    refine T_condF rfl (T_exit ?_)
    refine T_seq (T_region rfl ?_)
    refine O_y hs (Y_move rfl ?_)
    refine O_y hs (Y_assign rfl ?_)
    refine O_y hs (Y_assign rfl ?_)
    refine O_nil (T_sub [(4, _), (5, _)] ⟨rfl, rfl, trivial⟩ ?_)
    refine T_ret ?_
    refine Rt_fin (vs := [_, _]) Tryz.results29 rfl ⟨rfl, rfl, trivial⟩ ?_
    try dsimp only [tup]
    obtain rfl : i = b.length := by omega
    obtain ⟨G', hG, hf, hs3⟩ := hs.fixRow noM
    have hp2 : percF true 0 b = some out := by rw [hp, List.drop_length]; simp [percF]
    rw [hp2]
    exact ⟨G', [], hs3, rfl, _, rfl, hf⟩

set_option maxHeartbeats 400000 in
set_option maxRecDepth 10000 in
theorem percent_f {G : Ghost} {v : Value} {b : List UInt8} (hb : Bytes G v b) (hl : b.length ≤ 1000000000) :
    FnOk Tryz.prog 29 [v, .bool false] G [] fun r G' H' => H' = [] ∧ ∃ u, r = .tuple #[u, .bool (percF false 0 b).isSome] ∧ Bytes G' u ((percF false 0 b).getD []) := by
  obtain ⟨A, cap, rfl, _⟩ := id hb
  refine FnOk.of_T [(0, _), (1, _)] Tryz.func29 rfl Tryz.ntmps29 (by simp) rfl fun w0 hs => ?_
  have hb0 := hb
  refine T_seq (T_region rfl ?_)
  refine O_y hs (Y_assign rfl ?_)
  refine O_y hs (Y_assign rfl ?_)
  refine O_nil (T_sub [(0, _), (1, _)] ⟨rfl, rfl, trivial⟩ ?_)
  refine T_seq (T_region rfl ?_)
  refine O_s (S_lit hs Tryz.underlying22 Tryz.sizeOf5 Tryz.zeroValue5 rfl rfl (by decide) (by decide) rfl (cs := []) rfl rfl fun v1 _ hs _ => ?_)
  refine O_y hs (Y_assign rfl ?_)
  refine O_nil (T_sub [(0, _), (1, _), (6, _)] ⟨rfl, rfl, rfl, trivial⟩ ?_)
  refine T_seq (T_seq (T_region rfl ?_))
  refine O_y hs (Y_assign rfl ?_)
  refine O_nil (T_sub [(0, _), (1, _), (6, _), (7, _)] ⟨rfl, rfl, rfl, rfl, trivial⟩ ?_)
  refine T_block (T_loop (fun m E w => ∃ (i : Nat) (out : List UInt8) (v6 : Value) (G' : Ghost), i ≤ b.length ∧ out.length ≤ i ∧ percF false 0 b = (percF false 0 (b.drop i)).map (out ++ ·) ∧ m = b.length - i ∧ E = ⟨[], [(0, (.slice A b.length cap)), (1, .bool false), (6, v6), (7, .int .i64 (i : Int))]⟩ ∧ St ⟨w0, G, feet []⟩ G' [.row 5 1 v6 out.length (out.map byteV)] w) (L := [(0, _), (1, _), (6, _), (7, _)]) ⟨rfl, rfl, rfl, rfl, trivial⟩ (⟨0, [], _, _, by omega, by simp, by simp, rfl, rfl, hs⟩) fun m E w hI => ?_)
  obtain ⟨i, out, v6, G', hi, hol, hp, rfl, rfl, hs⟩ := hI
  have hb := hb0.mono hs.le
  refine T_seq (T_seq (T_region rfl ?_))
  refine O_y hs (Y_move rfl ?_)
  refine O_y hs (Y_move rfl ?_)
  refine O_y hs (Y_len Tryz.underlying22 rfl ?_)
  refine O_y hs (Y_cmpS rfl rfl rfl (fun h12 => ?_) (fun h12 => ?_))
  · -- h12: True
    dsimp only [cmpP] at h12
    refine O_nil (T_sub [(0, _), (1, _), (6, _), (7, _), (12, _)] ⟨rfl, rfl, rfl, rfl, rfl, trivial⟩ ?_)
    refine T_condT rfl (T_skip ?_)
    refine T_seq (T_block (T_seq (T_seq (T_region rfl ?_))))
    refine O_y hs (Y_move rfl ?_)
    refine O_y hs (Y_move rfl ?_)
    refine O_y hs (Y_idxB hb i Tryz.underlying22 Tryz.sizeOf5 rfl rfl rfl (by omega) fun p17 hp17 => ?_)
    refine O_y hs (Y_ldG Tryz.isAgg5 rfl (hp17) ?_)
    refine O_y hs (Y_cmpS rfl rfl rfl (fun h19 => ?_) (fun h19 => ?_))
    · -- h19: True
      dsimp only [cmpP] at h19
      refine O_y hs (Y_move rfl ?_)
      refine O_yy 20 hs rfl rfl (Y_move rfl ?_)
      refine O_yy 20 hs rfl rfl (Y_add (c := ((i + 2 : Nat) : Int)) rfl rfl (by omega) (by omega) ?_)
      refine O_yy 20 hs rfl rfl (Y_move rfl ?_)
      refine O_yy 20 hs rfl rfl (Y_len Tryz.underlying22 rfl ?_)
      refine O_yy 20 hs rfl rfl (Y_cmpS rfl rfl rfl (fun h25 => ?_) (fun h25 => ?_))
      · -- h25: True
        dsimp only [cmpP] at h25
        refine O_y hs (Y_pickT rfl rfl ?_)
        refine O_y hs (Y_move rfl ?_)
        refine O_yy 27 hs rfl rfl (Y_move rfl ?_)
        refine O_yy 27 hs rfl rfl (Y_move rfl ?_)
        refine O_yy 27 hs rfl rfl (Y_add (c := ((i + 1 : Nat) : Int)) rfl rfl (by omega) (by omega) ?_)
        refine O_yy 27 hs rfl rfl (Y_idxB hb (i + 1) Tryz.underlying22 Tryz.sizeOf5 rfl rfl rfl (by omega) fun p31 hp31 => ?_)
        refine O_yy 27 hs rfl rfl (Y_ldG Tryz.isAgg5 rfl (hp31) ?_)
        refine O_yes 27 rfl rfl (S_call (H1 := []) hs rfl Tryz.func65 rfl (by kernel_rfl) (dig_ok (x := (b[i + 1]'(by omega)))) fun v2 G' H' _ hR hG33 hs => ?_)
        obtain ⟨rfl, rfl⟩ := hR
        replace hs : St _ _ [_] _ := hs
        replace hb := hb.mono hG33
        refine O_yy 27 hs rfl rfl (Y_cmpS rfl rfl rfl (fun h34 => ?_) (fun h34 => ?_))
        · -- h34: True
          dsimp only [cmpP] at h34
          refine O_y hs (Y_pickT rfl rfl ?_)
          refine O_y hs (Y_move rfl ?_)
          refine O_yy 36 hs rfl rfl (Y_move rfl ?_)
          refine O_yy 36 hs rfl rfl (Y_move rfl ?_)
          refine O_yy 36 hs rfl rfl (Y_add (c := ((i + 2 : Nat) : Int)) rfl rfl (by omega) (by omega) ?_)
          refine O_yy 36 hs rfl rfl (Y_idxB hb (i + 2) Tryz.underlying22 Tryz.sizeOf5 rfl rfl rfl (by omega) fun p40 hp40 => ?_)
          refine O_yy 36 hs rfl rfl (Y_ldG Tryz.isAgg5 rfl (hp40) ?_)
          refine O_yes 36 rfl rfl (S_call (H1 := []) hs rfl Tryz.func65 rfl (by kernel_rfl) (dig_ok (x := (b[i + 2]'(by omega)))) fun v3 G' H' _ hR hG42 hs => ?_)
          obtain ⟨rfl, rfl⟩ := hR
          replace hs : St _ _ [_] _ := hs
          replace hb := hb.mono hG42
          refine O_yy 36 hs rfl rfl (Y_cmpS rfl rfl rfl (fun h43 => ?_) (fun h43 => ?_))
          · -- h43: True
            dsimp only [cmpP] at h43
            refine O_y hs (Y_pickT rfl rfl ?_)
            refine O_nil (T_sub [(0, _), (1, _), (6, _), (7, _), (44, _)] ⟨rfl, rfl, rfl, rfl, rfl, trivial⟩ ?_)
            refine T_condT rfl (T_seq (T_drawS [0, 1, 2, 3, 4, 5, 6, 7, 8, 9, 10, 11, 12, 13, 14, 15, 16] hs (by kernel_rfl) ?_))
            replace hs := hs.drew
            refine A_take 0 rfl (by kernel_rfl) rfl hs (Y_move rfl ?_)
            refine A_take 1 rfl (by kernel_rfl) rfl hs (Y_move rfl ?_)
            refine A_take 2 rfl (by kernel_rfl) rfl hs (Y_move rfl ?_)
            refine A_take 3 rfl (by kernel_rfl) rfl hs (Y_add (c := ((i + 1 : Nat) : Int)) rfl rfl (by omega) (by omega) ?_)
            refine A_take 4 rfl (by kernel_rfl) rfl hs (Y_idxB hb (i + 1) Tryz.underlying22 Tryz.sizeOf5 rfl rfl rfl (by omega) fun p49 hp49 => ?_)
            refine A_take 5 rfl (by kernel_rfl) rfl hs (Y_ldG Tryz.isAgg5 rfl (hp49) ?_)
            refine A_take 8 rfl (by kernel_rfl) rfl hs (Y_move rfl ?_)
            refine A_take 9 rfl (by kernel_rfl) rfl hs (Y_move rfl ?_)
            refine A_take 10 rfl (by kernel_rfl) rfl hs (Y_add (c := ((i + 2 : Nat) : Int)) rfl rfl (by omega) (by omega) ?_)
            refine A_take 11 rfl (by kernel_rfl) rfl hs (Y_idxB hb (i + 2) Tryz.underlying22 Tryz.sizeOf5 rfl rfl rfl (by omega) fun p56 hp56 => ?_)
            refine A_take 12 rfl (by kernel_rfl) rfl hs (Y_ldG Tryz.isAgg5 rfl (hp56) ?_)
            have hle := hs.le
            refine A_only 6 rfl (by kernel_rfl) rfl (S_call (H1 := []) hs rfl Tryz.func65 rfl (by kernel_rfl) (dig_ok (x := (b[i + 1]'(by omega)))) fun v4 G' H' _ hR hG51 hs => ?_)
            obtain ⟨rfl, rfl⟩ := hR
            replace hs : St _ _ [_] _ := hs
            replace hb := hb.mono hG51
            refine A_moreS hs hle hG51 (List.Sublist.refl _) ?_
            refine A_take 7 rfl (by kernel_rfl) rfl hs (Y_mul (c := (16 * digV (b[i + 1]'(by omega)))) rfl rfl (rfl) (by have := dig_le (b[i + 1]'(by omega)); omega) ?_)
            have hle := hs.le
            refine A_only 13 rfl (by kernel_rfl) rfl (S_call (H1 := []) hs rfl Tryz.func65 rfl (by kernel_rfl) (dig_ok (x := (b[i + 2]'(by omega)))) fun v5 G' H' _ hR hG58 hs => ?_)
            obtain ⟨rfl, rfl⟩ := hR
            replace hs : St _ _ [_] _ := hs
            replace hb := hb.mono hG58
            refine A_moreS hs hle hG58 (List.Sublist.refl _) ?_
            refine A_take 14 rfl (by kernel_rfl) rfl hs (Y_add (c := (16 * digV (b[i + 1]'(by omega)) + digV (b[i + 2]'(by omega)))) rfl rfl (rfl) (by have := dig_le (b[i + 1]'(by omega)); have := dig_le (b[i + 2]'(by omega)); omega) ?_)
            refine A_take 15 rfl (by kernel_rfl) rfl hs (Y_conv Tryz.underlying3 Tryz.underlying5 (c := ((16 * (hexF (b[i + 1]'(by omega))).getD 0 + (hexF (b[i + 2]'(by omega))).getD 0).toNat : Int)) rfl (dig_join (by omega) (by omega)) ?_)
            have hle := hs.le
            refine A_only 16 rfl (by kernel_rfl) rfl (S_lit hs Tryz.underlying22 Tryz.sizeOf5 Tryz.zeroValue5 rfl rfl (by decide) (by decide) rfl (cs := [_]) rfl rfl fun v6 _ hs _ => ?_)
            obtain ⟨_, hG61, hl61, hs⟩ := hs.fixRow noM
            replace hb := hb.mono hG61
            refine A_moreS hs hle hG61 (List.Sublist.refl _) ?_
            refine A_tail 17 rfl (by kernel_rfl) (by kernel_rfl) rfl (S_append hs Tryz.underlying22 TI5 rfl (by decide) rfl rfl (hl61) (one1 rfl) (by omega) (by omega) fun v7 _ hs => ?_)
            refine A_tail 18 rfl (by kernel_rfl) (by kernel_rfl) rfl (S_y hs rfl (Y_assign rfl ?_))
            refine A_done (by kernel_rfl) (T_sub [(0, _), (1, _), (6, _), (7, _)] ⟨rfl, rfl, rfl, rfl, trivial⟩ ?_)
            refine T_seq (T_region rfl ?_)
            refine O_y hs (Y_move rfl ?_)
            refine O_y hs (Y_add (c := ((i + 2 : Nat) : Int)) rfl rfl (by omega) (by omega) ?_)
            refine O_y hs (Y_assign rfl ?_)
            refine O_nil (T_sub [(0, _), (1, _), (6, _), (7, _)] ⟨rfl, rfl, rfl, rfl, trivial⟩ ?_)
            refine T_exit ?_
            refine T_region rfl ?_
            refine O_y hs (Y_move rfl ?_)
            refine O_y hs (Y_add (c := ((i + 2 + 1 : Nat) : Int)) rfl rfl (by omega) (by omega) ?_)
            refine O_y hs (Y_assign rfl ?_)
            refine O_nil ⟨_, ?_, [(0, _), (1, _), (6, _), (7, _)], ⟨rfl, rfl, rfl, rfl, trivial⟩, ⟨i + 2 + 1, out ++ [16 * (hexF (b[i + 1]'(by omega))).getD 0 + (hexF (b[i + 2]'(by omega))).getD 0], _, _, by omega, by simp only [List.length_append, List.length_cons, List.length_nil]; omega, p_step hp (p_pair (by omega) h19 (by omega) (by omega)), rfl, rfl, by rw [List.length_append, List.map_append]; exact hs⟩⟩
            omega
          · -- h43: False
            dsimp only [cmpP] at h43
            refine O_y hs (Y_pickT rfl rfl ?_)
            refine O_nil (T_sub [(0, _), (1, _), (6, _), (7, _), (44, _)] ⟨rfl, rfl, rfl, rfl, rfl, trivial⟩ ?_)
            refine T_condF rfl (T_skip ?_)
            refine T_seq (T_seq (T_region rfl ?_))
            refine O_y hs (Y_move rfl ?_)
            refine O_y hs (Y_move rfl ?_)
            refine O_y hs (Y_idxB hb i Tryz.underlying22 Tryz.sizeOf5 rfl rfl rfl (by omega) fun p67 hp67 => ?_)
            refine O_y hs (Y_ldG Tryz.isAgg5 rfl (hp67) ?_)
            refine O_y hs (Y_cmpT rfl rfl rfl (h19) ?_)
            refine O_y hs (Y_move rfl ?_)
            refine O_yy 70 hs rfl rfl (Y_move rfl ?_)
            refine O_yy 70 hs rfl rfl (Y_not rfl ?_)
            refine O_y hs (Y_pickT rfl rfl ?_)
            refine O_nil (T_sub [(0, _), (1, _), (6, _), (7, _), (73, _)] ⟨rfl, rfl, rfl, rfl, rfl, trivial⟩ ?_)
            refine T_condT rfl (T_seq (T_region rfl ?_))
            refine O_y hs (Y_assign rfl ?_)
            refine O_y hs (Y_assign rfl ?_)
            refine O_nil (T_sub [(4, _), (5, _)] ⟨rfl, rfl, trivial⟩ ?_)
            refine T_ret ?_
            refine Rt_fin (vs := [_, _]) Tryz.results29 rfl ⟨rfl, rfl, trivial⟩ ?_
            try dsimp only [tup]
            have h0 := p_strict (b := b) (i := i) (by omega) h19 (by rintro ⟨h2, h3, h4⟩; omega)
            rw [hp, h0]
            exact ⟨_, [], hs.done, rfl, _, rfl, Sl.nil _ _⟩
        · -- h34: False
          dsimp only [cmpP] at h34
          refine O_y hs (Y_pickT rfl rfl ?_)
          refine O_y hs (Y_move rfl ?_)
          refine O_no 36 rfl rfl ?_
          refine O_no 36 rfl rfl ?_
          refine O_no 36 rfl rfl ?_
          refine O_no 36 rfl rfl ?_
          refine O_no 36 rfl rfl ?_
          refine O_no 36 rfl rfl ?_
          refine O_no 36 rfl rfl ?_
          refine O_y hs (Y_pickF rfl rfl ?_)
          refine O_nil (T_sub [(0, _), (1, _), (6, _), (7, _), (44, _)] ⟨rfl, rfl, rfl, rfl, rfl, trivial⟩ ?_)
          refine T_condF rfl (T_skip ?_)
          refine T_seq (T_seq (T_region rfl ?_))
          refine O_y hs (Y_move rfl ?_)
          refine O_y hs (Y_move rfl ?_)
          refine O_y hs (Y_idxB hb i Tryz.underlying22 Tryz.sizeOf5 rfl rfl rfl (by omega) fun p67 hp67 => ?_)
          refine O_y hs (Y_ldG Tryz.isAgg5 rfl (hp67) ?_)
          refine O_y hs (Y_cmpT rfl rfl rfl (h19) ?_)
          refine O_y hs (Y_move rfl ?_)
          refine O_yy 70 hs rfl rfl (Y_move rfl ?_)
          refine O_yy 70 hs rfl rfl (Y_not rfl ?_)
          refine O_y hs (Y_pickT rfl rfl ?_)
          refine O_nil (T_sub [(0, _), (1, _), (6, _), (7, _), (73, _)] ⟨rfl, rfl, rfl, rfl, rfl, trivial⟩ ?_)
          refine T_condT rfl (T_seq (T_region rfl ?_))
          refine O_y hs (Y_assign rfl ?_)
          refine O_y hs (Y_assign rfl ?_)
          refine O_nil (T_sub [(4, _), (5, _)] ⟨rfl, rfl, trivial⟩ ?_)
          refine T_ret ?_
          refine Rt_fin (vs := [_, _]) Tryz.results29 rfl ⟨rfl, rfl, trivial⟩ ?_
          try dsimp only [tup]
          have h0 := p_strict (b := b) (i := i) (by omega) h19 (by rintro ⟨h2, h3, h4⟩; omega)
          rw [hp, h0]
          exact ⟨_, [], hs.done, rfl, _, rfl, Sl.nil _ _⟩
      · -- h25: False
        dsimp only [cmpP] at h25
        refine O_y hs (Y_pickT rfl rfl ?_)
        refine O_y hs (Y_move rfl ?_)
        refine O_no 27 rfl rfl ?_
        refine O_no 27 rfl rfl ?_
        refine O_no 27 rfl rfl ?_
        refine O_no 27 rfl rfl ?_
        refine O_no 27 rfl rfl ?_
        refine O_no 27 rfl rfl ?_
        refine O_no 27 rfl rfl ?_
        refine O_y hs (Y_pickF rfl rfl ?_)
        refine O_y hs (Y_move rfl ?_)
        refine O_no 36 rfl rfl ?_
        refine O_no 36 rfl rfl ?_
        refine O_no 36 rfl rfl ?_
        refine O_no 36 rfl rfl ?_
        refine O_no 36 rfl rfl ?_
        refine O_no 36 rfl rfl ?_
        refine O_no 36 rfl rfl ?_
        refine O_y hs (Y_pickF rfl rfl ?_)
        refine O_nil (T_sub [(0, _), (1, _), (6, _), (7, _), (44, _)] ⟨rfl, rfl, rfl, rfl, rfl, trivial⟩ ?_)
        refine T_condF rfl (T_skip ?_)
        refine T_seq (T_seq (T_region rfl ?_))
        refine O_y hs (Y_move rfl ?_)
        refine O_y hs (Y_move rfl ?_)
        refine O_y hs (Y_idxB hb i Tryz.underlying22 Tryz.sizeOf5 rfl rfl rfl (by omega) fun p67 hp67 => ?_)
        refine O_y hs (Y_ldG Tryz.isAgg5 rfl (hp67) ?_)
        refine O_y hs (Y_cmpT rfl rfl rfl (h19) ?_)
        refine O_y hs (Y_move rfl ?_)
        refine O_yy 70 hs rfl rfl (Y_move rfl ?_)
        refine O_yy 70 hs rfl rfl (Y_not rfl ?_)
        refine O_y hs (Y_pickT rfl rfl ?_)
        refine O_nil (T_sub [(0, _), (1, _), (6, _), (7, _), (73, _)] ⟨rfl, rfl, rfl, rfl, rfl, trivial⟩ ?_)
        refine T_condT rfl (T_seq (T_region rfl ?_))
        refine O_y hs (Y_assign rfl ?_)
        refine O_y hs (Y_assign rfl ?_)
        refine O_nil (T_sub [(4, _), (5, _)] ⟨rfl, rfl, trivial⟩ ?_)
        refine T_ret ?_
        refine Rt_fin (vs := [_, _]) Tryz.results29 rfl ⟨rfl, rfl, trivial⟩ ?_
        try dsimp only [tup]
        have h0 := p_strict (b := b) (i := i) (by omega) h19 (by rintro ⟨h2, h3, h4⟩; omega)
        rw [hp, h0]
        exact ⟨_, [], hs.done, rfl, _, rfl, Sl.nil _ _⟩
    · -- h19: False
      dsimp only [cmpP] at h19
      refine O_y hs (Y_move rfl ?_)
      refine O_no 20 rfl rfl ?_
      refine O_no 20 rfl rfl ?_
      refine O_no 20 rfl rfl ?_
      refine O_no 20 rfl rfl ?_
      refine O_no 20 rfl rfl ?_
      refine O_y hs (Y_pickF rfl rfl ?_)
      refine O_y hs (Y_move rfl ?_)
      refine O_no 27 rfl rfl ?_
      refine O_no 27 rfl rfl ?_
      refine O_no 27 rfl rfl ?_
      refine O_no 27 rfl rfl ?_
      refine O_no 27 rfl rfl ?_
      refine O_no 27 rfl rfl ?_
      refine O_no 27 rfl rfl ?_
      refine O_y hs (Y_pickF rfl rfl ?_)
      refine O_y hs (Y_move rfl ?_)
      refine O_no 36 rfl rfl ?_
      refine O_no 36 rfl rfl ?_
      refine O_no 36 rfl rfl ?_
      refine O_no 36 rfl rfl ?_
      refine O_no 36 rfl rfl ?_
      refine O_no 36 rfl rfl ?_
      refine O_no 36 rfl rfl ?_
      refine O_y hs (Y_pickF rfl rfl ?_)
      refine O_nil (T_sub [(0, _), (1, _), (6, _), (7, _), (44, _)] ⟨rfl, rfl, rfl, rfl, rfl, trivial⟩ ?_)
      refine T_condF rfl (T_skip ?_)
      refine T_seq (T_seq (T_region rfl ?_))
      refine O_y hs (Y_move rfl ?_)
      refine O_y hs (Y_move rfl ?_)
      refine O_y hs (Y_idxB hb i Tryz.underlying22 Tryz.sizeOf5 rfl rfl rfl (by omega) fun p67 hp67 => ?_)
      refine O_y hs (Y_ldG Tryz.isAgg5 rfl (hp67) ?_)
      refine O_y hs (Y_cmpF rfl rfl rfl (h19) ?_)
      refine O_y hs (Y_move rfl ?_)
      refine O_no 70 rfl rfl ?_
      refine O_no 70 rfl rfl ?_
      refine O_y hs (Y_pickF rfl rfl ?_)
      refine O_nil (T_sub [(0, _), (1, _), (6, _), (7, _), (73, _)] ⟨rfl, rfl, rfl, rfl, rfl, trivial⟩ ?_)
      refine T_condF rfl (T_skip ?_)
      refine T_region rfl ?_
      refine O_y hs (Y_move rfl ?_)
      refine O_y hs (Y_move rfl ?_)
      refine O_y hs (Y_move rfl ?_)
      refine O_y hs (Y_idxB hb i Tryz.underlying22 Tryz.sizeOf5 rfl rfl rfl (by omega) fun p77 hp77 => ?_)
      refine O_y hs (Y_ldG Tryz.isAgg5 rfl (hp77) ?_)
      refine O_s (S_lit hs Tryz.underlying22 Tryz.sizeOf5 Tryz.zeroValue5 rfl rfl (by decide) (by decide) rfl (cs := [_]) rfl rfl fun v8 _ hs _ => ?_)
      obtain ⟨_, hG79, hl79, hs⟩ := hs.fixRow noM
      replace hb := hb.mono hG79
      refine O_s (S_append hs Tryz.underlying22 TI5 rfl (by decide) rfl rfl (hl79) (one1 rfl) (by omega) (by omega) fun v9 _ hs => ?_)
      refine O_y hs (Y_assign rfl ?_)
      refine O_nil (T_sub [(0, _), (1, _), (6, _), (7, _)] ⟨rfl, rfl, rfl, rfl, trivial⟩ ?_)
      refine T_region rfl ?_
      refine O_y hs (Y_move rfl ?_)
      refine O_y hs (Y_add (c := ((i + 1 : Nat) : Int)) rfl rfl (by omega) (by omega) ?_)
      refine O_y hs (Y_assign rfl ?_)
      refine O_nil ⟨_, ?_, [(0, _), (1, _), (6, _), (7, _)], ⟨rfl, rfl, rfl, rfl, trivial⟩, ⟨i + 1, out ++ [(b[i]'(by omega))], _, _, by omega, by simp only [List.length_append, List.length_cons, List.length_nil]; omega, p_step hp (p_other (by omega) h19), rfl, rfl, by rw [List.length_append, List.map_append]; exact hs⟩⟩
      omega
  · -- h12: False
    dsimp only [cmpP] at h12
    refine O_nil (T_sub [(0, _), (1, _), (6, _), (7, _), (12, _)] ⟨rfl, rfl, rfl, rfl, rfl, trivial⟩ ?_)
    refine T_condF rfl (T_exit ?_)
    refine T_seq (T_region rfl ?_)
    refine O_y hs (Y_move rfl ?_)
    refine O_y hs (Y_assign rfl ?_)
    refine O_y hs (Y_assign rfl ?_)
    refine O_nil (T_sub [(4, _), (5, _)] ⟨rfl, rfl, trivial⟩ ?_)
    refine T_ret ?_
    refine Rt_fin (vs := [_, _]) Tryz.results29 rfl ⟨rfl, rfl, trivial⟩ ?_
    try dsimp only [tup]
    obtain rfl : i = b.length := by omega
    obtain ⟨G', hG, hf, hs3⟩ := hs.fixRow noM
    have hp2 : percF false 0 b = some out := by rw [hp, List.drop_length]; simp [percF]
    rw [hp2]
    exact ⟨G', [], hs3, rfl, _, rfl, hf⟩

set_option maxHeartbeats 400000 in
set_option maxRecDepth 10000 in
theorem replace_ok {G : Ghost} {v vb : Value} {o : OpV} {b : List UInt8} {n : Nat} (ho : OpR G v o) (hb : Bytes G vb b) (h1 : 0 < o.old.length) (hol : o.old.length ≤ 8) (hn4 : o.new.length ≤ 4) (hbl : b.length ≤ 100000000) (hn : n ≤ 100000000) :
    FnOk Tryz.prog 30 [v, vb, .int .i64 (n : Int)] G [] fun r G' H' => H' = [] ∧ Bytes G' r (repF o.old o.new n 0 b) := by
  obtain ⟨u1, u2, rfl, ho1, ho2⟩ := ho
  obtain ⟨A1, c1, rfl, _⟩ := id ho1
  obtain ⟨A2, c2, rfl, _⟩ := id ho2
  obtain ⟨A, cap, rfl, _⟩ := id hb
  refine FnOk.of_T [(0, _), (1, _), (2, _)] Tryz.func30 rfl Tryz.ntmps30 (by simp) rfl fun w0 hs => ?_
  have ho10 := ho1
  have ho20 := ho2
  have hb0 := hb
  refine T_seq (T_region rfl ?_)
  refine O_s (S_box hs rfl (cs := [_, _, _]) rfl fun b3 _ hs => ?_)
  refine O_y hs (Y_assign rfl ?_)
  refine O_nil (T_sub [(1, _), (2, _), (3, _)] ⟨rfl, rfl, rfl, trivial⟩ ?_)
  refine T_seq (T_region rfl ?_)
  refine O_s (S_lit hs Tryz.underlying22 Tryz.sizeOf5 Tryz.zeroValue5 rfl rfl (by decide) (by decide) rfl (cs := []) rfl rfl fun v1 _ hs _ => ?_)
  refine O_y hs (Y_assign rfl ?_)
  refine O_nil (T_sub [(1, _), (2, _), (3, _), (7, _)] ⟨rfl, rfl, rfl, rfl, trivial⟩ ?_)
  refine T_seq (T_seq (T_region rfl ?_))
  refine O_y hs (Y_assign rfl ?_)
  refine O_nil (T_sub [(1, _), (2, _), (3, _), (7, _), (8, _)] ⟨rfl, rfl, rfl, rfl, rfl, trivial⟩ ?_)
  refine T_block (T_loop (fun m E w => ∃ (i m' : Nat) (out : List UInt8) (v7 : Value) (G' : Ghost), i ≤ b.length ∧ m' ≤ n ∧ out.length ≤ 4 * i ∧ repF o.old o.new n 0 b = out ++ repF o.old o.new m' 0 (b.drop i) ∧ m = b.length - i ∧ E = ⟨[], [(1, (.slice A b.length cap)), (2, .int .i64 (m' : Int)), (3, .pointer (some ⟨b3, 0, none⟩)), (7, v7), (8, .int .i64 (i : Int))]⟩ ∧ St ⟨w0, G, feet []⟩ G' [.row 5 1 v7 out.length (out.map byteV), .blk b3 24 [.int .i64 o.kind, .slice A1 o.old.length c1, .slice A2 o.new.length c2]] w) (L := [(1, _), (2, _), (3, _), (7, _), (8, _)]) ⟨rfl, rfl, rfl, rfl, rfl, trivial⟩ (⟨0, n, [], _, _, by omega, by omega, by simp, by simp, rfl, rfl, hs⟩) fun m E w hI => ?_)
  obtain ⟨i, m', out, v7, G', hi, hm', hol2, hr, rfl, rfl, hs⟩ := hI
  have ho1 := ho10.mono hs.le
  have ho2 := ho20.mono hs.le
  have hb := hb0.mono hs.le
  refine T_seq (T_seq (T_region rfl ?_))
  refine O_y hs (Y_move rfl ?_)
  refine O_y hs (Y_move rfl ?_)
  refine O_y hs (Y_len Tryz.underlying22 rfl ?_)
  refine O_y hs (Y_cmpS rfl rfl rfl (fun h13 => ?_) (fun h13 => ?_))
  · -- h13: True
    dsimp only [cmpP] at h13
    refine O_nil (T_sub [(1, _), (2, _), (3, _), (7, _), (8, _), (13, _)] ⟨rfl, rfl, rfl, rfl, rfl, rfl, trivial⟩ ?_)
    refine T_condT rfl (T_skip ?_)
    refine T_block (T_seq (T_seq (T_region rfl ?_)))
    refine O_y hs (Y_move rfl ?_)
    refine O_y hs (Y_cmpS rfl rfl rfl (fun h15 => ?_) (fun h15 => ?_))
    · -- h15: True
      dsimp only [cmpP] at h15
      refine O_y hs (Y_move rfl ?_)
      refine O_yy 16 hs rfl rfl (Y_fieldAddr FO24_1 rfl (m := 1) rfl ?_)
      refine O_yy 16 hs rfl rfl (Y_ld 1 Tryz.isAgg22 rfl rfl rfl ?_)
      refine O_yy 16 hs rfl rfl (Y_move rfl ?_)
      refine O_yy 16 hs rfl rfl (Y_move rfl ?_)
      refine O_yes 16 rfl rfl (S_call (H1 := []) hs rfl Tryz.func21 rfl (by kernel_rfl) (at_ok ho1 hb (by omega) (by omega) (by omega)) fun v2 G' H' _ hR hG21 hs => ?_)
      obtain ⟨rfl, rfl⟩ := hR
      replace hs : St _ _ [_, _] _ := hs
      replace ho1 := ho1.mono hG21
      replace ho2 := ho2.mono hG21
      replace hb := hb.mono hG21
      cases hq : o.old.isPrefixOf (b.drop i)
      · -- hq: False
        refine O_y hs (Y_pickT rfl rfl ?_)
        refine O_nil (T_sub [(1, _), (2, _), (3, _), (7, _), (8, _), (22, _)] ⟨rfl, rfl, rfl, rfl, rfl, rfl, trivial⟩ ?_)
        refine T_condF rfl (T_skip ?_)
        refine T_seq (T_region rfl ?_)
        refine O_y hs (Y_move rfl ?_)
        refine O_y hs (Y_move rfl ?_)
        refine O_y hs (Y_move rfl ?_)
        refine O_y hs (Y_idxB hb i Tryz.underlying22 Tryz.sizeOf5 rfl rfl rfl (by omega) fun p37 hp37 => ?_)
        refine O_y hs (Y_ldG Tryz.isAgg5 rfl (hp37) ?_)
        refine O_s (S_lit hs Tryz.underlying22 Tryz.sizeOf5 Tryz.zeroValue5 rfl rfl (by decide) (by decide) rfl (cs := [_]) rfl rfl fun v3 _ hs _ => ?_)
        obtain ⟨_, hG39, hl39, hs⟩ := hs.fixRow noM
        replace ho1 := ho1.mono hG39
        replace ho2 := ho2.mono hG39
        replace hb := hb.mono hG39
        refine O_s (S_append hs Tryz.underlying22 TI5 rfl (by decide) rfl rfl (hl39) (one1 rfl) (by omega) (by omega) fun v4 _ hs => ?_)
        refine O_y hs (Y_assign rfl ?_)
        refine O_nil (T_sub [(1, _), (2, _), (3, _), (7, _), (8, _)] ⟨rfl, rfl, rfl, rfl, rfl, trivial⟩ ?_)
        refine T_region rfl ?_
        refine O_y hs (Y_move rfl ?_)
        refine O_y hs (Y_add (c := ((i + 1 : Nat) : Int)) rfl rfl (by omega) (by omega) ?_)
        refine O_y hs (Y_assign rfl ?_)
        refine O_nil ⟨_, ?_, [(1, _), (2, _), (3, _), (7, _), (8, _)], ⟨rfl, rfl, rfl, rfl, rfl, trivial⟩, ⟨i + 1, m', out ++ [(b[i]'(by omega))], _, _, by omega, by omega, by simp only [List.length_append, List.length_cons, List.length_nil]; omega, by rw [hr, r_miss (by omega) (by rintro ⟨h2, h3⟩; first | omega | (rw [hq] at h3; cases h3)), List.append_assoc]; rfl, rfl, rfl, by rw [List.length_append, List.map_append]; exact hs⟩⟩
        omega
      · -- hq: True
        refine O_y hs (Y_pickT rfl rfl ?_)
        refine O_nil (T_sub [(1, _), (2, _), (3, _), (7, _), (8, _), (22, _)] ⟨rfl, rfl, rfl, rfl, rfl, rfl, trivial⟩ ?_)
        refine T_condT rfl (T_seq (T_region rfl ?_))
        refine O_y hs (Y_move rfl ?_)
        refine O_y hs (Y_fieldAddr FO24_2 rfl (m := 2) rfl ?_)
        refine O_y hs (Y_ld 1 Tryz.isAgg22 rfl rfl rfl ?_)
        refine O_s (S_append hs Tryz.underlying22 TI5 rfl (by decide) rfl rfl (ho2) (byteV_one) (by omega) (by omega) fun v5 _ hs => ?_)
        refine O_y hs (Y_assign rfl ?_)
        refine O_nil (T_sub [(1, _), (2, _), (3, _), (7, _), (8, _)] ⟨rfl, rfl, rfl, rfl, rfl, trivial⟩ ?_)
        refine T_seq (T_region rfl ?_)
        refine O_y hs (Y_move rfl ?_)
        refine O_y hs (Y_fieldAddr FO24_1 rfl (m := 1) rfl ?_)
        refine O_y hs (Y_ld 1 Tryz.isAgg22 rfl rfl rfl ?_)
        refine O_y hs (Y_len Tryz.underlying22 rfl ?_)
        refine O_y hs (Y_add (c := ((i + o.old.length : Nat) : Int)) rfl rfl (by omega) (by omega) ?_)
        refine O_y hs (Y_assign rfl ?_)
        refine O_nil (T_sub [(1, _), (2, _), (3, _), (7, _), (8, _)] ⟨rfl, rfl, rfl, rfl, rfl, trivial⟩ ?_)
        refine T_seq (T_region rfl ?_)
        refine O_y hs (Y_move rfl ?_)
        refine O_y hs (Y_sub (c := ((m' - 1 : Nat) : Int)) rfl rfl (by omega) (by omega) ?_)
        refine O_y hs (Y_assign rfl ?_)
        refine O_nil (T_sub [(1, _), (2, _), (3, _), (7, _), (8, _)] ⟨rfl, rfl, rfl, rfl, rfl, trivial⟩ ?_)
        refine T_exit ?_
        have hal := at_len hq hi
        refine ⟨_, ?_, [(1, _), (2, _), (3, _), (7, _), (8, _)], ⟨rfl, rfl, rfl, rfl, rfl, trivial⟩, ⟨i + o.old.length, m' - 1, out ++ o.new, _, _, by omega, by omega, by simp only [List.length_append]; omega, by rw [hr, r_hit (by omega) (by omega) hq h1, List.append_assoc], rfl, rfl, by rw [List.length_append, List.map_append]; exact hs⟩⟩
        omega
    · -- h15: False
      dsimp only [cmpP] at h15
      refine O_y hs (Y_move rfl ?_)
      refine O_no 16 rfl rfl ?_
      refine O_no 16 rfl rfl ?_
      refine O_no 16 rfl rfl ?_
      refine O_no 16 rfl rfl ?_
      refine O_no 16 rfl rfl ?_
      refine O_y hs (Y_pickF rfl rfl ?_)
      refine O_nil (T_sub [(1, _), (2, _), (3, _), (7, _), (8, _), (22, _)] ⟨rfl, rfl, rfl, rfl, rfl, rfl, trivial⟩ ?_)
      refine T_condF rfl (T_skip ?_)
      refine T_seq (T_region rfl ?_)
      refine O_y hs (Y_move rfl ?_)
      refine O_y hs (Y_move rfl ?_)
      refine O_y hs (Y_move rfl ?_)
      refine O_y hs (Y_idxB hb i Tryz.underlying22 Tryz.sizeOf5 rfl rfl rfl (by omega) fun p37 hp37 => ?_)
      refine O_y hs (Y_ldG Tryz.isAgg5 rfl (hp37) ?_)
      refine O_s (S_lit hs Tryz.underlying22 Tryz.sizeOf5 Tryz.zeroValue5 rfl rfl (by decide) (by decide) rfl (cs := [_]) rfl rfl fun v6 _ hs _ => ?_)
      obtain ⟨_, hG39, hl39, hs⟩ := hs.fixRow noM
      replace ho1 := ho1.mono hG39
      replace ho2 := ho2.mono hG39
      replace hb := hb.mono hG39
      refine O_s (S_append hs Tryz.underlying22 TI5 rfl (by decide) rfl rfl (hl39) (one1 rfl) (by omega) (by omega) fun v7 _ hs => ?_)
      refine O_y hs (Y_assign rfl ?_)
      refine O_nil (T_sub [(1, _), (2, _), (3, _), (7, _), (8, _)] ⟨rfl, rfl, rfl, rfl, rfl, trivial⟩ ?_)
      refine T_region rfl ?_
      refine O_y hs (Y_move rfl ?_)
      refine O_y hs (Y_add (c := ((i + 1 : Nat) : Int)) rfl rfl (by omega) (by omega) ?_)
      refine O_y hs (Y_assign rfl ?_)
      refine O_nil ⟨_, ?_, [(1, _), (2, _), (3, _), (7, _), (8, _)], ⟨rfl, rfl, rfl, rfl, rfl, trivial⟩, ⟨i + 1, m', out ++ [(b[i]'(by omega))], _, _, by omega, by omega, by simp only [List.length_append, List.length_cons, List.length_nil]; omega, by rw [hr, r_miss (by omega) (by rintro ⟨h2, h3⟩; first | omega | (rw [hq] at h3; cases h3)), List.append_assoc]; rfl, rfl, rfl, by rw [List.length_append, List.map_append]; exact hs⟩⟩
      omega
  · -- h13: False
    dsimp only [cmpP] at h13
    refine O_nil (T_sub [(1, _), (2, _), (3, _), (7, _), (8, _), (13, _)] ⟨rfl, rfl, rfl, rfl, rfl, rfl, trivial⟩ ?_)
    refine T_condF rfl (T_exit ?_)
    refine T_seq (T_region rfl ?_)
    refine O_y hs (Y_move rfl ?_)
    refine O_y hs (Y_assign rfl ?_)
    refine O_nil (T_sub [(6, _)] ⟨rfl, trivial⟩ ?_)
    refine T_ret ?_
    refine Rt_fin (vs := [_]) Tryz.results30 rfl ⟨rfl, trivial⟩ ?_
    try dsimp only [tup]
    obtain rfl : i = b.length := by omega
    rw [List.drop_length] at hr
    obtain ⟨G', hG, hf, hs3⟩ := hs.fixRow noM
    exact ⟨G', [], hs3.done, rfl, Bytes.cast (by rw [hr]; simp [repF]) hf⟩

set_option maxHeartbeats 400000 in
set_option maxRecDepth 10000 in
theorem rhas_ok {G : Ghost} {c : List Nat} {x : UInt8} (hc : c.length = 4) :
    FnOk Tryz.prog 36 [ClsV c, .int .u8 (x.toNat : Int)] G [] fun r _ H' => H' = [] ∧ r = .bool (hasF c x) := by
  have hx := x.toNat_lt
  have hcell : (c.map u64V)[x.toNat / 64]? = some (u64V (c.getD (x.toNat / 64) 0)) := by rw [List.getElem?_map, List.getElem?_eq_getElem (by omega), List.getD_eq_getElem?_getD, List.getElem?_eq_getElem (by omega)]; rfl
  refine FnOk.of_T [(0, _), (1, _)] Tryz.func36 rfl Tryz.ntmps36 (by simp) rfl fun w0 hs => ?_
  refine T_seq (T_region rfl ?_)
  refine O_s (S_box hs rfl (cs := (List.map u64V c)) rfl fun b2 _ hs => ?_)
  refine O_y hs (Y_assign rfl ?_)
  refine O_nil (T_sub [(1, _), (2, _)] ⟨rfl, rfl, trivial⟩ ?_)
  refine T_seq (T_region rfl ?_)
  refine O_y hs (Y_move rfl ?_)
  refine O_y hs (Y_quoU (c := ((x.toNat / 64 : Nat) : Int)) rfl rfl (by omega) (by omega) (by omega) ?_)
  refine O_y hs (Y_idxArr' (x.toNat / 64) Tryz.underlying27 Tryz.sizeOf25 rfl rfl rfl (by omega) ?_)
  refine O_y hs (Y_ld 0 Tryz.isAgg25 rfl rfl hcell ?_)
  refine O_y hs (Y_move rfl ?_)
  refine O_y hs (Y_rem (c := ((x.toNat % 64 : Nat) : Int)) rfl rfl (by omega) (by omega) (by omega) ?_)
  refine O_y hs (Y_shr64 (x.toNat % 64) (by omega) rfl rfl ?_)
  refine O_y hs (Y_and64 (b := 1) rfl rfl ?_)
  refine O_y hs (Y_cmpB (t := hasF c x) rfl rfl rfl (has_iff2 c x) ?_)
  refine O_y hs (Y_assign rfl ?_)
  refine O_nil (T_sub [(4, _)] ⟨rfl, trivial⟩ ?_)
  refine T_ret ?_
  refine Rt_fin (vs := [_]) Tryz.results36 rfl ⟨rfl, trivial⟩ ?_
  try dsimp only [tup]
  exact ⟨_, [], hs.done, rfl, rfl⟩

set_option maxHeartbeats 400000 in
set_option maxRecDepth 10000 in
theorem member_ok {G : Ghost} {c : List Nat} {x : UInt8} (hc : c.length = 4) :
    FnOk Tryz.prog 24 [ClsV c, .int .u8 (x.toNat : Int)] G [] fun r _ H' => H' = [] ∧ r = .bool (hasF c x) := by
  have hx := x.toNat_lt
  have hcell : (c.map u64V)[x.toNat / 64]? = some (u64V (c.getD (x.toNat / 64) 0)) := by rw [List.getElem?_map, List.getElem?_eq_getElem (by omega), List.getD_eq_getElem?_getD, List.getElem?_eq_getElem (by omega)]; rfl
  refine FnOk.of_T [(0, _), (1, _)] Tryz.func24 rfl Tryz.ntmps24 (by simp) rfl fun w0 hs => ?_
  refine T_seq (T_region rfl ?_)
  refine O_s (S_box hs rfl (cs := (List.map u64V c)) rfl fun b2 _ hs => ?_)
  refine O_y hs (Y_assign rfl ?_)
  refine O_nil (T_sub [(1, _), (2, _)] ⟨rfl, rfl, trivial⟩ ?_)
  refine T_seq (T_region rfl ?_)
  refine O_y hs (Y_move rfl ?_)
  refine O_y hs (Y_quoU (c := ((x.toNat / 64 : Nat) : Int)) rfl rfl (by omega) (by omega) (by omega) ?_)
  refine O_y hs (Y_idxArr' (x.toNat / 64) Tryz.underlying27 Tryz.sizeOf25 rfl rfl rfl (by omega) ?_)
  refine O_y hs (Y_ld 0 Tryz.isAgg25 rfl rfl hcell ?_)
  refine O_y hs (Y_move rfl ?_)
  refine O_y hs (Y_rem (c := ((x.toNat % 64 : Nat) : Int)) rfl rfl (by omega) (by omega) (by omega) ?_)
  refine O_y hs (Y_shr64 (x.toNat % 64) (by omega) rfl rfl ?_)
  refine O_y hs (Y_and64 (b := 1) rfl rfl ?_)
  refine O_y hs (Y_cmpB (t := hasF c x) rfl rfl rfl (has_iff2 c x) ?_)
  refine O_y hs (Y_assign rfl ?_)
  refine O_nil (T_sub [(4, _)] ⟨rfl, trivial⟩ ?_)
  refine T_ret ?_
  refine Rt_fin (vs := [_]) Tryz.results24 rfl ⟨rfl, trivial⟩ ?_
  try dsimp only [tup]
  exact ⟨_, [], hs.done, rfl, rfl⟩

set_option maxHeartbeats 400000 in
set_option maxRecDepth 10000 in
theorem rtrim_ok {G : Ghost} {v : Value} {c : List Nat} {b : List UInt8} (hc : c.length = 4) (hb : Bytes G v b) (hbl : b.length ≤ 1000000000) :
    FnOk Tryz.prog 16 [ClsV c, v] G [] fun r G' H' => H' = [] ∧ Bytes G' r (trimF c b) := by
  obtain ⟨A, cap, rfl, _⟩ := id hb
  refine FnOk.of_T [(0, _), (1, _)] Tryz.func16 rfl Tryz.ntmps16 (by simp) rfl fun w0 hs => ?_
  have hb0 := hb
  refine T_seq (T_region rfl ?_)
  refine O_s (S_box hs rfl (cs := (List.map u64V c)) rfl fun b2 _ hs => ?_)
  refine O_y hs (Y_assign rfl ?_)
  refine O_nil (T_sub [(1, _), (2, _)] ⟨rfl, rfl, trivial⟩ ?_)
  refine T_seq (T_region rfl ?_)
  refine O_y hs (Y_assign rfl ?_)
  refine O_nil (T_sub [(1, _), (2, _), (5, _)] ⟨rfl, rfl, rfl, trivial⟩ ?_)
  refine T_seq (T_block (T_loop (fun m E w => ∃ (i : Nat) (G' : Ghost), i ≤ b.length ∧ b.dropWhile (hasF c) = (b.drop i).dropWhile (hasF c) ∧ m = b.length - i ∧ E = ⟨[], [(1, (.slice A b.length cap)), (2, .pointer (some ⟨b2, 0, none⟩)), (5, .int .i64 (i : Int))]⟩ ∧ St ⟨w0, G, feet []⟩ G' [.blk b2 27 (List.map u64V c)] w) (L := [(1, _), (2, _), (5, _)]) ⟨rfl, rfl, rfl, trivial⟩ (⟨0, _, by omega, rfl, rfl, rfl, hs⟩) fun m E w hI => ?_))
  obtain ⟨i, G', hi, hd, rfl, rfl, hs⟩ := hI
  have hb := hb0.mono hs.le
  refine T_seq (T_seq (T_drawS [0, 1, 2, 3, 4, 5, 6, 7, 8, 9, 10, 11] hs (by kernel_rfl) ?_))
  replace hs := hs.drew
  refine A_take 0 rfl (by kernel_rfl) rfl hs (Y_move rfl ?_)
  refine A_take 1 rfl (by kernel_rfl) rfl hs (Y_move rfl ?_)
  refine A_take 2 rfl (by kernel_rfl) rfl hs (Y_len Tryz.underlying22 rfl ?_)
  refine A_take 3 rfl (by kernel_rfl) rfl hs (Y_cmpS rfl rfl rfl (fun h10 => ?_) (fun h10 => ?_))
  · -- h10: True
    dsimp only [cmpP] at h10
    refine A_take 4 rfl (by kernel_rfl) rfl hs (Y_move rfl ?_)
    refine A_take 5 rfl (by kernel_rfl) rfl hs (Y_ldW 0 Tryz.isAgg27 Tryz.sizeOf27 rfl rfl (by first | omega | (simp; omega) | simp) ?_)
    refine A_take 6 rfl (by kernel_rfl) rfl hs (Y_move rfl ?_)
    refine A_take 7 rfl (by kernel_rfl) rfl hs (Y_move rfl ?_)
    refine A_take 8 rfl (by kernel_rfl) rfl hs (Y_idxB hb i Tryz.underlying22 Tryz.sizeOf5 rfl rfl rfl (by omega) fun p15 hp15 => ?_)
    refine A_take 9 rfl (by kernel_rfl) rfl hs (Y_ldG Tryz.isAgg5 rfl (hp15) ?_)
    have hle := hs.le
    refine A_only 10 rfl (by kernel_rfl) rfl (S_call (H1 := []) hs rfl Tryz.func36 rfl (by kernel_rfl) (rhas_ok hc) fun v1 G' H' _ hR hG17 hs => ?_)
    obtain ⟨rfl, rfl⟩ := hR
    replace hs : St _ _ [_] _ := hs
    replace hb := hb.mono hG17
    cases hq : hasF c (b[i]'(by omega))
    · -- hq: False
      refine A_moreS hs hle hG17 (List.Sublist.refl _) ?_
      refine A_take 11 rfl (by kernel_rfl) rfl hs (Y_pickT rfl rfl ?_)
      refine A_done (by kernel_rfl) (T_sub [(1, _), (2, _), (5, _), (18, _)] ⟨rfl, rfl, rfl, rfl, trivial⟩ ?_)
      refine T_condF rfl (T_exit ?_)
      refine T_seq (T_region rfl ?_)
      refine O_y hs (Y_move rfl ?_)
      refine O_y hs (Y_len Tryz.underlying22 rfl ?_)
      refine O_y hs (Y_assign rfl ?_)
      refine O_nil (T_sub [(1, _), (2, _), (5, _), (6, _)] ⟨rfl, rfl, rfl, rfl, trivial⟩ ?_)
      refine T_seq (T_block (T_loop (fun m E w => ∃ (j : Nat) (G' : Ghost), i ≤ j ∧ j ≤ b.length ∧ trimF c b = ((midF b i j).reverse.dropWhile (hasF c)).reverse ∧ m = j - i ∧ E = ⟨[], [(1, (.slice A b.length cap)), (2, .pointer (some ⟨b2, 0, none⟩)), (5, .int .i64 (i : Int)), (6, .int .i64 (j : Int))]⟩ ∧ St ⟨w0, G, feet []⟩ G' [.blk b2 27 (List.map u64V c)] w) (L := [(1, _), (2, _), (5, _), (6, _)]) ⟨rfl, rfl, rfl, rfl, trivial⟩ (⟨b.length, _, by omega, by omega, by first | exact tr_begin (dw_stop (by omega) hd hq) | exact tr_begin (dw_end (by omega) hd), rfl, rfl, hs⟩) fun m E w hI => ?_))
      obtain ⟨j, G', hij, hj, ht, rfl, rfl, hs⟩ := hI
      have hb := hb0.mono hs.le
      refine T_seq (T_seq (T_drawS [0, 1, 2, 3, 4, 5, 6, 7, 8, 9, 10, 11] hs (by kernel_rfl) ?_))
      replace hs := hs.drew
      refine A_take 0 rfl (by kernel_rfl) rfl hs (Y_move rfl ?_)
      refine A_take 1 rfl (by kernel_rfl) rfl hs (Y_move rfl ?_)
      refine A_take 2 rfl (by kernel_rfl) rfl hs (Y_cmpS rfl rfl rfl (fun h25 => ?_) (fun h25 => ?_))
      · -- h25: True
        dsimp only [cmpP] at h25
        refine A_take 3 rfl (by kernel_rfl) rfl hs (Y_move rfl ?_)
        refine A_take 4 rfl (by kernel_rfl) rfl hs (Y_ldW 0 Tryz.isAgg27 Tryz.sizeOf27 rfl rfl (by first | omega | (simp; omega) | simp) ?_)
        refine A_take 5 rfl (by kernel_rfl) rfl hs (Y_move rfl ?_)
        refine A_take 6 rfl (by kernel_rfl) rfl hs (Y_move rfl ?_)
        refine A_take 7 rfl (by kernel_rfl) rfl hs (Y_sub (c := ((j - 1 : Nat) : Int)) rfl rfl (by omega) (by omega) ?_)
        refine A_take 8 rfl (by kernel_rfl) rfl hs (Y_idxB hb (j - 1) Tryz.underlying22 Tryz.sizeOf5 rfl rfl rfl (by omega) fun p31 hp31 => ?_)
        refine A_take 9 rfl (by kernel_rfl) rfl hs (Y_ldG Tryz.isAgg5 rfl (hp31) ?_)
        have hle := hs.le
        refine A_only 10 rfl (by kernel_rfl) rfl (S_call (H1 := []) hs rfl Tryz.func36 rfl (by kernel_rfl) (rhas_ok hc) fun v2 G' H' _ hR hG33 hs => ?_)
        obtain ⟨rfl, rfl⟩ := hR
        replace hs : St _ _ [_] _ := hs
        replace hb := hb.mono hG33
        cases hq2 : hasF c (b[j - 1]'(by omega))
        · -- hq2: False
          refine A_moreS hs hle hG33 (List.Sublist.refl _) ?_
          refine A_take 11 rfl (by kernel_rfl) rfl hs (Y_pickT rfl rfl ?_)
          refine A_done (by kernel_rfl) (T_sub [(1, _), (2, _), (5, _), (6, _), (34, _)] ⟨rfl, rfl, rfl, rfl, rfl, trivial⟩ ?_)
          refine T_condF rfl (T_exit ?_)
          refine T_seq (T_region rfl ?_)
          refine O_y hs (Y_move rfl ?_)
          refine O_y hs (Y_move rfl ?_)
          refine O_y hs (Y_move rfl ?_)
          refine O_y hs (Y_sliceB hb i j Tryz.underlying22 Tryz.sizeOf5 rfl ⟨_, _, rfl, rfl⟩ ⟨_, _, rfl, rfl⟩ (by omega) (by omega) fun s40 hs40 => ?_)
          obtain ⟨A40, c40, rfl, _⟩ := id hs40
          refine O_s (S_call (H1 := []) hs rfl Tryz.func27 rfl (by kernel_rfl) (copy_b hs40 (by rw [List.length_take]; omega)) fun v3 G' H' _ hR hG41 hs => ?_)
          obtain ⟨rfl, hf⟩ := hR
          replace hs : St _ _ [_] _ := hs
          replace hb := hb.mono hG41
          replace hs40 := hs40.mono hG41
          refine O_y hs (Y_assign rfl ?_)
          refine O_nil (T_sub [(4, _)] ⟨rfl, trivial⟩ ?_)
          refine T_ret ?_
          refine Rt_fin (vs := [_]) Tryz.results16 rfl ⟨rfl, trivial⟩ ?_
          try dsimp only [tup]
          exact ⟨_, [], hs.done, rfl, Bytes.cast (by first | exact (tr_stop (by omega) hj ht hq2).symm | exact (tr_end (by omega) ht).symm) hf⟩
        · -- hq2: True
          refine A_moreS hs hle hG33 (List.Sublist.refl _) ?_
          refine A_take 11 rfl (by kernel_rfl) rfl hs (Y_pickT rfl rfl ?_)
          refine A_done (by kernel_rfl) (T_sub [(1, _), (2, _), (5, _), (6, _), (34, _)] ⟨rfl, rfl, rfl, rfl, rfl, trivial⟩ ?_)
          refine T_condT rfl (T_skip ?_)
          refine T_block (T_region rfl ?_)
          refine O_y hs (Y_move rfl ?_)
          refine O_y hs (Y_sub (c := ((j - 1 : Nat) : Int)) rfl rfl (by omega) (by omega) ?_)
          refine O_y hs (Y_assign rfl ?_)
          refine O_nil ⟨_, ?_, [(1, _), (2, _), (5, _), (6, _)], ⟨rfl, rfl, rfl, rfl, trivial⟩, ⟨j - 1, _, by omega, by omega, tr_step (by omega) hj ht hq2, rfl, rfl, hs⟩⟩
          omega
      · -- h25: False
        dsimp only [cmpP] at h25
        refine A_take 3 rfl (by kernel_rfl) rfl hs (Y_move rfl ?_)
        refine A_skip 4 rfl (by kernel_rfl) rfl hs ?_
        refine A_skip 5 rfl (by kernel_rfl) rfl hs ?_
        refine A_skip 6 rfl (by kernel_rfl) rfl hs ?_
        refine A_skip 7 rfl (by kernel_rfl) rfl hs ?_
        refine A_skip 8 rfl (by kernel_rfl) rfl hs ?_
        refine A_skip 9 rfl (by kernel_rfl) rfl hs ?_
        refine A_skip 10 rfl (by kernel_rfl) rfl hs ?_
        refine A_take 11 rfl (by kernel_rfl) rfl hs (Y_pickF rfl rfl ?_)
        refine A_done (by kernel_rfl) (T_sub [(1, _), (2, _), (5, _), (6, _), (34, _)] ⟨rfl, rfl, rfl, rfl, rfl, trivial⟩ ?_)
        refine T_condF rfl (T_exit ?_)
        refine T_seq (T_region rfl ?_)
        refine O_y hs (Y_move rfl ?_)
        refine O_y hs (Y_move rfl ?_)
        refine O_y hs (Y_move rfl ?_)
        refine O_y hs (Y_sliceB hb i j Tryz.underlying22 Tryz.sizeOf5 rfl ⟨_, _, rfl, rfl⟩ ⟨_, _, rfl, rfl⟩ (by omega) (by omega) fun s40 hs40 => ?_)
        obtain ⟨A40, c40, rfl, _⟩ := id hs40
        refine O_s (S_call (H1 := []) hs rfl Tryz.func27 rfl (by kernel_rfl) (copy_b hs40 (by rw [List.length_take]; omega)) fun v4 G' H' _ hR hG41 hs => ?_)
        obtain ⟨rfl, hf⟩ := hR
        replace hs : St _ _ [_] _ := hs
        replace hb := hb.mono hG41
        replace hs40 := hs40.mono hG41
        refine O_y hs (Y_assign rfl ?_)
        refine O_nil (T_sub [(4, _)] ⟨rfl, trivial⟩ ?_)
        refine T_ret ?_
        refine Rt_fin (vs := [_]) Tryz.results16 rfl ⟨rfl, trivial⟩ ?_
        try dsimp only [tup]
        exact ⟨_, [], hs.done, rfl, Bytes.cast (by first | exact (tr_stop (by omega) hj ht hq2).symm | exact (tr_end (by omega) ht).symm) hf⟩
    · -- hq: True
      refine A_moreS hs hle hG17 (List.Sublist.refl _) ?_
      refine A_take 11 rfl (by kernel_rfl) rfl hs (Y_pickT rfl rfl ?_)
      refine A_done (by kernel_rfl) (T_sub [(1, _), (2, _), (5, _), (18, _)] ⟨rfl, rfl, rfl, rfl, trivial⟩ ?_)
      refine T_condT rfl (T_skip ?_)
      refine T_block (T_region rfl ?_)
      refine O_y hs (Y_move rfl ?_)
      refine O_y hs (Y_add (c := ((i + 1 : Nat) : Int)) rfl rfl (by omega) (by omega) ?_)
      refine O_y hs (Y_assign rfl ?_)
      refine O_nil ⟨_, ?_, [(1, _), (2, _), (5, _)], ⟨rfl, rfl, rfl, trivial⟩, ⟨i + 1, _, by omega, dw_step (by omega) hd hq, rfl, rfl, hs⟩⟩
      omega
  · -- h10: False
    dsimp only [cmpP] at h10
    refine A_take 4 rfl (by kernel_rfl) rfl hs (Y_move rfl ?_)
    refine A_skip 5 rfl (by kernel_rfl) rfl hs ?_
    refine A_skip 6 rfl (by kernel_rfl) rfl hs ?_
    refine A_skip 7 rfl (by kernel_rfl) rfl hs ?_
    refine A_skip 8 rfl (by kernel_rfl) rfl hs ?_
    refine A_skip 9 rfl (by kernel_rfl) rfl hs ?_
    refine A_skip 10 rfl (by kernel_rfl) rfl hs ?_
    refine A_take 11 rfl (by kernel_rfl) rfl hs (Y_pickF rfl rfl ?_)
    refine A_done (by kernel_rfl) (T_sub [(1, _), (2, _), (5, _), (18, _)] ⟨rfl, rfl, rfl, rfl, trivial⟩ ?_)
    refine T_condF rfl (T_exit ?_)
    refine T_seq (T_region rfl ?_)
    refine O_y hs (Y_move rfl ?_)
    refine O_y hs (Y_len Tryz.underlying22 rfl ?_)
    refine O_y hs (Y_assign rfl ?_)
    refine O_nil (T_sub [(1, _), (2, _), (5, _), (6, _)] ⟨rfl, rfl, rfl, rfl, trivial⟩ ?_)
    refine T_seq (T_block (T_loop (fun m E w => ∃ (j : Nat) (G' : Ghost), i ≤ j ∧ j ≤ b.length ∧ trimF c b = ((midF b i j).reverse.dropWhile (hasF c)).reverse ∧ m = j - i ∧ E = ⟨[], [(1, (.slice A b.length cap)), (2, .pointer (some ⟨b2, 0, none⟩)), (5, .int .i64 (i : Int)), (6, .int .i64 (j : Int))]⟩ ∧ St ⟨w0, G, feet []⟩ G' [.blk b2 27 (List.map u64V c)] w) (L := [(1, _), (2, _), (5, _), (6, _)]) ⟨rfl, rfl, rfl, rfl, trivial⟩ (⟨b.length, _, by omega, by omega, by first | exact tr_begin (dw_stop (by omega) hd hq) | exact tr_begin (dw_end (by omega) hd), rfl, rfl, hs⟩) fun m E w hI => ?_))
    obtain ⟨j, G', hij, hj, ht, rfl, rfl, hs⟩ := hI
    have hb := hb0.mono hs.le
    refine T_seq (T_seq (T_drawS [0, 1, 2, 3, 4, 5, 6, 7, 8, 9, 10, 11] hs (by kernel_rfl) ?_))
    replace hs := hs.drew
    refine A_take 0 rfl (by kernel_rfl) rfl hs (Y_move rfl ?_)
    refine A_take 1 rfl (by kernel_rfl) rfl hs (Y_move rfl ?_)
    refine A_take 2 rfl (by kernel_rfl) rfl hs (Y_cmpS rfl rfl rfl (fun h25 => ?_) (fun h25 => ?_))
    · -- h25: True
      dsimp only [cmpP] at h25
      refine A_take 3 rfl (by kernel_rfl) rfl hs (Y_move rfl ?_)
      refine A_take 4 rfl (by kernel_rfl) rfl hs (Y_ldW 0 Tryz.isAgg27 Tryz.sizeOf27 rfl rfl (by first | omega | (simp; omega) | simp) ?_)
      refine A_take 5 rfl (by kernel_rfl) rfl hs (Y_move rfl ?_)
      refine A_take 6 rfl (by kernel_rfl) rfl hs (Y_move rfl ?_)
      refine A_take 7 rfl (by kernel_rfl) rfl hs (Y_sub (c := ((j - 1 : Nat) : Int)) rfl rfl (by omega) (by omega) ?_)
      refine A_take 8 rfl (by kernel_rfl) rfl hs (Y_idxB hb (j - 1) Tryz.underlying22 Tryz.sizeOf5 rfl rfl rfl (by omega) fun p31 hp31 => ?_)
      refine A_take 9 rfl (by kernel_rfl) rfl hs (Y_ldG Tryz.isAgg5 rfl (hp31) ?_)
      have hle := hs.le
      refine A_only 10 rfl (by kernel_rfl) rfl (S_call (H1 := []) hs rfl Tryz.func36 rfl (by kernel_rfl) (rhas_ok hc) fun v5 G' H' _ hR hG33 hs => ?_)
      obtain ⟨rfl, rfl⟩ := hR
      replace hs : St _ _ [_] _ := hs
      replace hb := hb.mono hG33
      cases hq2 : hasF c (b[j - 1]'(by omega))
      · -- hq2: False
        refine A_moreS hs hle hG33 (List.Sublist.refl _) ?_
        refine A_take 11 rfl (by kernel_rfl) rfl hs (Y_pickT rfl rfl ?_)
        refine A_done (by kernel_rfl) (T_sub [(1, _), (2, _), (5, _), (6, _), (34, _)] ⟨rfl, rfl, rfl, rfl, rfl, trivial⟩ ?_)
        refine T_condF rfl (T_exit ?_)
        refine T_seq (T_region rfl ?_)
        refine O_y hs (Y_move rfl ?_)
        refine O_y hs (Y_move rfl ?_)
        refine O_y hs (Y_move rfl ?_)
        refine O_y hs (Y_sliceB hb i j Tryz.underlying22 Tryz.sizeOf5 rfl ⟨_, _, rfl, rfl⟩ ⟨_, _, rfl, rfl⟩ (by omega) (by omega) fun s40 hs40 => ?_)
        obtain ⟨A40, c40, rfl, _⟩ := id hs40
        refine O_s (S_call (H1 := []) hs rfl Tryz.func27 rfl (by kernel_rfl) (copy_b hs40 (by rw [List.length_take]; omega)) fun v6 G' H' _ hR hG41 hs => ?_)
        obtain ⟨rfl, hf⟩ := hR
        replace hs : St _ _ [_] _ := hs
        replace hb := hb.mono hG41
        replace hs40 := hs40.mono hG41
        refine O_y hs (Y_assign rfl ?_)
        refine O_nil (T_sub [(4, _)] ⟨rfl, trivial⟩ ?_)
        refine T_ret ?_
        refine Rt_fin (vs := [_]) Tryz.results16 rfl ⟨rfl, trivial⟩ ?_
        try dsimp only [tup]
        exact ⟨_, [], hs.done, rfl, Bytes.cast (by first | exact (tr_stop (by omega) hj ht hq2).symm | exact (tr_end (by omega) ht).symm) hf⟩
      · -- hq2: True
        refine A_moreS hs hle hG33 (List.Sublist.refl _) ?_
        refine A_take 11 rfl (by kernel_rfl) rfl hs (Y_pickT rfl rfl ?_)
        refine A_done (by kernel_rfl) (T_sub [(1, _), (2, _), (5, _), (6, _), (34, _)] ⟨rfl, rfl, rfl, rfl, rfl, trivial⟩ ?_)
        refine T_condT rfl (T_skip ?_)
        refine T_block (T_region rfl ?_)
        refine O_y hs (Y_move rfl ?_)
        refine O_y hs (Y_sub (c := ((j - 1 : Nat) : Int)) rfl rfl (by omega) (by omega) ?_)
        refine O_y hs (Y_assign rfl ?_)
        refine O_nil ⟨_, ?_, [(1, _), (2, _), (5, _), (6, _)], ⟨rfl, rfl, rfl, rfl, trivial⟩, ⟨j - 1, _, by omega, by omega, tr_step (by omega) hj ht hq2, rfl, rfl, hs⟩⟩
        omega
    · -- h25: False
      dsimp only [cmpP] at h25
      refine A_take 3 rfl (by kernel_rfl) rfl hs (Y_move rfl ?_)
      refine A_skip 4 rfl (by kernel_rfl) rfl hs ?_
      refine A_skip 5 rfl (by kernel_rfl) rfl hs ?_
      refine A_skip 6 rfl (by kernel_rfl) rfl hs ?_
      refine A_skip 7 rfl (by kernel_rfl) rfl hs ?_
      refine A_skip 8 rfl (by kernel_rfl) rfl hs ?_
      refine A_skip 9 rfl (by kernel_rfl) rfl hs ?_
      refine A_skip 10 rfl (by kernel_rfl) rfl hs ?_
      refine A_take 11 rfl (by kernel_rfl) rfl hs (Y_pickF rfl rfl ?_)
      refine A_done (by kernel_rfl) (T_sub [(1, _), (2, _), (5, _), (6, _), (34, _)] ⟨rfl, rfl, rfl, rfl, rfl, trivial⟩ ?_)
      refine T_condF rfl (T_exit ?_)
      refine T_seq (T_region rfl ?_)
      refine O_y hs (Y_move rfl ?_)
      refine O_y hs (Y_move rfl ?_)
      refine O_y hs (Y_move rfl ?_)
      refine O_y hs (Y_sliceB hb i j Tryz.underlying22 Tryz.sizeOf5 rfl ⟨_, _, rfl, rfl⟩ ⟨_, _, rfl, rfl⟩ (by omega) (by omega) fun s40 hs40 => ?_)
      obtain ⟨A40, c40, rfl, _⟩ := id hs40
      refine O_s (S_call (H1 := []) hs rfl Tryz.func27 rfl (by kernel_rfl) (copy_b hs40 (by rw [List.length_take]; omega)) fun v7 G' H' _ hR hG41 hs => ?_)
      obtain ⟨rfl, hf⟩ := hR
      replace hs : St _ _ [_] _ := hs
      replace hb := hb.mono hG41
      replace hs40 := hs40.mono hG41
      refine O_y hs (Y_assign rfl ?_)
      refine O_nil (T_sub [(4, _)] ⟨rfl, trivial⟩ ?_)
      refine T_ret ?_
      refine Rt_fin (vs := [_]) Tryz.results16 rfl ⟨rfl, trivial⟩ ?_
      try dsimp only [tup]
      exact ⟨_, [], hs.done, rfl, Bytes.cast (by first | exact (tr_stop (by omega) hj ht hq2).symm | exact (tr_end (by omega) ht).symm) hf⟩

set_option maxHeartbeats 400000 in
set_option maxRecDepth 10000 in
theorem rdo_1 {G : Ghost} {v vb : Value} {old new b : List UInt8} (ho : OpR G v ⟨1, old, new⟩) (hb : Bytes G vb b) (hv : validO ⟨1, old, new⟩ = true) (hl : b.length ≤ 100000000) :
    FnOk Tryz.prog 11 [v, vb] G [] fun r G' H' => H' = [] ∧ ∃ u, r = .tuple #[u, .bool (doF ⟨1, old, new⟩ b).isSome] ∧ Bytes G' u ((doF ⟨1, old, new⟩ b).getD []) := by
  obtain ⟨u1, u2, hve, ho1, ho2⟩ := ho
  subst hve
  dsimp only at ho1 ho2
  obtain ⟨A1, c1, rfl, _⟩ := id ho1
  obtain ⟨A2, c2, rfl, _⟩ := id ho2
  obtain ⟨A, cap, rfl, _⟩ := id hb
  dsimp only
  have hd : doF ⟨1, old, new⟩ b = some (b.map lowerF) := by unfold doF; rw [if_neg (by simp [hv])]; simp
  refine FnOk.of_T [(0, _), (1, _)] Tryz.func11 rfl Tryz.ntmps11 (by simp) rfl fun w0 hs => ?_
  have hb0 := hb
  have ho10 := ho1
  have ho20 := ho2
  refine T_seq (T_region rfl ?_)
  refine O_s (S_box hs rfl (cs := [_, _, _]) rfl fun b2 _ hs => ?_)
  refine O_y hs (Y_assign rfl ?_)
  refine O_y hs (Y_assign rfl ?_)
  refine O_nil (T_sub [(1, _), (2, _)] ⟨rfl, rfl, trivial⟩ ?_)
  refine T_seq (T_seq (T_region rfl ?_))
  refine O_y hs (Y_ldA 0 Tryz.isAgg24 Tryz.sizeOf24 rfl rfl (vs := [_, _, _]) rfl rfl ?_)
  refine O_s (S_call (H1 := []) hs rfl Tryz.func13 rfl (by kernel_rfl) (rvalid_ok (o := ⟨1, old, new⟩) ⟨_, _, rfl, ho1, ho2⟩) fun v1 G' H' _ hR hG10 hs => ?_)
  obtain ⟨rfl, rfl⟩ := hR
  replace hs : St _ _ [_] _ := hs
  replace hb := hb.mono hG10
  replace ho1 := ho1.mono hG10
  replace ho2 := ho2.mono hG10
  refine O_y hs (Y_cmpF rfl rfl rfl (by simp [cmpP, hv]) ?_)
  refine O_nil (T_sub [(1, _), (2, _), (11, _)] ⟨rfl, rfl, rfl, trivial⟩ ?_)
  refine T_condF rfl (T_skip ?_)
  refine T_seq (T_seq (T_region rfl ?_))
  refine O_y hs (Y_fieldAddr FO24_0 rfl (m := 0) rfl ?_)
  refine O_y hs (Y_ld 0 Tryz.isAgg3 rfl rfl rfl ?_)
  refine O_nil (T_sub [(1, _), (2, _), (13, _)] ⟨rfl, rfl, rfl, trivial⟩ ?_)
  refine T_block (T_seq (T_seq (T_region rfl ?_)))
  refine O_y hs (Y_cmpF rfl rfl rfl (by decide) ?_)
  refine O_y hs (Y_assign rfl ?_)
  refine O_nil (T_sub [(1, _), (2, _), (13, _), (14, _)] ⟨rfl, rfl, rfl, rfl, trivial⟩ ?_)
  refine T_condF rfl (T_region rfl ?_)
  refine O_y hs (Y_cmpF rfl rfl rfl (by decide) ?_)
  refine O_y hs (Y_assign rfl ?_)
  refine O_nil (T_sub [(1, _), (2, _), (13, _), (14, _)] ⟨rfl, rfl, rfl, rfl, trivial⟩ ?_)
  refine T_condF rfl (T_seq (T_region rfl ?_))
  refine O_y hs (Y_cmpF rfl rfl rfl (by decide) ?_)
  refine O_y hs (Y_assign rfl ?_)
  refine O_nil (T_sub [(1, _), (2, _), (13, _), (24, _)] ⟨rfl, rfl, rfl, rfl, trivial⟩ ?_)
  refine T_condF rfl (T_seq (T_region rfl ?_))
  refine O_y hs (Y_cmpF rfl rfl rfl (by decide) ?_)
  refine O_y hs (Y_assign rfl ?_)
  refine O_nil (T_sub [(1, _), (2, _), (29, _)] ⟨rfl, rfl, rfl, trivial⟩ ?_)
  refine T_condF rfl (T_skip ?_)
  refine T_seq (T_region rfl ?_)
  refine O_s (S_lit hs Tryz.underlying22 Tryz.sizeOf5 Tryz.zeroValue5 rfl rfl (by decide) (by decide) rfl (cs := []) rfl rfl fun v2 _ hs _ => ?_)
  refine O_y hs (Y_assign rfl ?_)
  refine O_nil (T_sub [(1, _), (2, _), (6, _)] ⟨rfl, rfl, rfl, trivial⟩ ?_)
  refine T_seq (T_seq (T_region rfl ?_))
  refine O_y hs (Y_assign rfl ?_)
  refine O_nil (T_sub [(1, _), (2, _), (6, _), (7, _)] ⟨rfl, rfl, rfl, rfl, trivial⟩ ?_)
  refine T_block (T_loop (fun m E w => ∃ (i : Nat) (v6 : Value) (G' : Ghost), i ≤ b.length ∧ m = b.length - i ∧ E = ⟨[], [(1, (.slice A b.length cap)), (2, .pointer (some ⟨b2, 0, none⟩)), (6, v6), (7, .int .i64 (i : Int))]⟩ ∧ St ⟨w0, G, feet []⟩ G' [.row 5 1 v6 ((b.take i).map lowerF).length (((b.take i).map lowerF).map byteV), .blk b2 24 [.int .i64 1, .slice A1 old.length c1, .slice A2 new.length c2]] w) (L := [(1, _), (2, _), (6, _), (7, _)]) ⟨rfl, rfl, rfl, rfl, trivial⟩ (⟨0, _, _, by omega, rfl, rfl, hs⟩) fun m E w hI => ?_)
  obtain ⟨i, v6, G', hi, rfl, rfl, hs⟩ := hI
  have hb := hb0.mono hs.le
  have ho1 := ho10.mono hs.le
  have ho2 := ho20.mono hs.le
  have hgl : ((b.take i).map lowerF).length ≤ i := by rw [List.length_map, List.length_take]; omega
  refine T_seq (T_seq (T_region rfl ?_))
  refine O_y hs (Y_move rfl ?_)
  refine O_y hs (Y_move rfl ?_)
  refine O_y hs (Y_len Tryz.underlying22 rfl ?_)
  refine O_y hs (Y_cmpS rfl rfl rfl (fun h40 => ?_) (fun h40 => ?_))
  · -- h40: True
    dsimp only [cmpP] at h40
    refine O_nil (T_sub [(1, _), (2, _), (6, _), (7, _), (40, _)] ⟨rfl, rfl, rfl, rfl, rfl, trivial⟩ ?_)
    refine T_condT rfl (T_skip ?_)
    refine T_seq (T_block (T_seq (T_region rfl ?_)))
    refine O_y hs (Y_move rfl ?_)
    refine O_y hs (Y_move rfl ?_)
    refine O_y hs (Y_idxB hb i Tryz.underlying22 Tryz.sizeOf5 rfl rfl rfl (by omega) fun p45 hp45 => ?_)
    refine O_y hs (Y_ldG Tryz.isAgg5 rfl (hp45) ?_)
    refine O_y hs (Y_assign rfl ?_)
    refine O_nil (T_sub [(1, _), (2, _), (6, _), (7, _), (8, _)] ⟨rfl, rfl, rfl, rfl, rfl, trivial⟩ ?_)
    refine T_seq (T_seq (T_region rfl ?_))
    refine O_y hs (Y_fieldAddr FO24_0 rfl (m := 0) rfl ?_)
    refine O_y hs (Y_ld 1 Tryz.isAgg3 rfl rfl rfl ?_)
    refine O_y hs (Y_cmpF rfl rfl rfl (by decide) ?_)
    refine O_y hs (Y_move rfl ?_)
    refine O_no 50 rfl rfl ?_
    refine O_no 50 rfl rfl ?_
    refine O_no 50 rfl rfl ?_
    refine O_no 50 rfl rfl ?_
    refine O_y hs (Y_pickF rfl rfl ?_)
    refine O_y hs (Y_move rfl ?_)
    refine O_yy 56 hs rfl rfl (Y_fieldAddr FO24_0 rfl (m := 0) rfl ?_)
    refine O_yy 56 hs rfl rfl (Y_ld 1 Tryz.isAgg3 rfl rfl rfl ?_)
    refine O_yy 56 hs rfl rfl (Y_cmpF rfl rfl rfl (by decide) ?_)
    refine O_yy 56 hs rfl rfl (Y_move rfl ?_)
    refine O_no 60 rfl rfl ?_
    refine O_no 60 rfl rfl ?_
    refine O_yy 56 hs rfl rfl (Y_pickF rfl rfl ?_)
    refine O_yy 56 hs rfl rfl (Y_move rfl ?_)
    refine O_no 64 rfl rfl ?_
    refine O_no 64 rfl rfl ?_
    refine O_no 64 rfl rfl ?_
    refine O_no 64 rfl rfl ?_
    refine O_no 64 rfl rfl ?_
    refine O_no 64 rfl rfl ?_
    refine O_yy 56 hs rfl rfl (Y_pickF rfl rfl ?_)
    refine O_yy 56 hs rfl rfl (Y_move rfl ?_)
    refine O_no 72 rfl rfl ?_
    refine O_no 72 rfl rfl ?_
    refine O_no 72 rfl rfl ?_
    refine O_no 72 rfl rfl ?_
    refine O_no 72 rfl rfl ?_
    refine O_no 72 rfl rfl ?_
    refine O_no 72 rfl rfl ?_
    refine O_yy 56 hs rfl rfl (Y_pickF rfl rfl ?_)
    refine O_y hs (Y_pickF rfl rfl ?_)
    refine O_nil (T_sub [(1, _), (2, _), (6, _), (7, _), (8, _), (81, _)] ⟨rfl, rfl, rfl, rfl, rfl, rfl, trivial⟩ ?_)
    refine T_condF rfl (T_skip ?_)
    refine T_seq (T_seq (T_region rfl ?_))
    refine O_y hs (Y_fieldAddr FO24_0 rfl (m := 0) rfl ?_)
    refine O_y hs (Y_ld 1 Tryz.isAgg3 rfl rfl rfl ?_)
    refine O_y hs (Y_cmpT rfl rfl rfl (by decide) ?_)
    refine O_nil (T_sub [(1, _), (2, _), (6, _), (7, _), (8, _), (84, _)] ⟨rfl, rfl, rfl, rfl, rfl, rfl, trivial⟩ ?_)
    refine T_condT rfl (T_region rfl ?_)
    refine O_y hs (Y_move rfl ?_)
    refine O_s (S_call (H1 := []) hs rfl Tryz.func32 rfl (by kernel_rfl) (letter_low (x := (b[i]'(by omega)))) fun v3 G' H' _ hR hG86 hs => ?_)
    obtain ⟨rfl, rfl⟩ := hR
    replace hs : St _ _ [_, _] _ := hs
    replace hb := hb.mono hG86
    replace ho1 := ho1.mono hG86
    replace ho2 := ho2.mono hG86
    refine O_y hs (Y_assign rfl ?_)
    refine O_nil (T_sub [(1, _), (2, _), (6, _), (7, _), (8, _)] ⟨rfl, rfl, rfl, rfl, rfl, trivial⟩ ?_)
    refine T_seq (T_seq (T_region rfl ?_))
    refine O_y hs (Y_fieldAddr FO24_0 rfl (m := 0) rfl ?_)
    refine O_y hs (Y_ld 1 Tryz.isAgg3 rfl rfl rfl ?_)
    refine O_y hs (Y_cmpF rfl rfl rfl (by decide) ?_)
    refine O_nil (T_sub [(1, _), (2, _), (6, _), (7, _), (8, _), (89, _)] ⟨rfl, rfl, rfl, rfl, rfl, rfl, trivial⟩ ?_)
    refine T_condF rfl (T_skip ?_)
    refine T_region rfl ?_
    refine O_y hs (Y_move rfl ?_)
    refine O_y hs (Y_move rfl ?_)
    refine O_s (S_lit hs Tryz.underlying22 Tryz.sizeOf5 Tryz.zeroValue5 rfl rfl (by decide) (by decide) rfl (cs := [_]) rfl rfl fun v4 _ hs _ => ?_)
    obtain ⟨_, hG94, hl94, hs⟩ := hs.fixRow noM
    replace hb := hb.mono hG94
    replace ho1 := ho1.mono hG94
    replace ho2 := ho2.mono hG94
    refine O_s (S_append hs Tryz.underlying22 TI5 rfl (by decide) rfl rfl (hl94) (one1 rfl) (by omega) (by omega) fun v5 _ hs => ?_)
    refine O_y hs (Y_assign rfl ?_)
    refine O_nil (T_sub [(1, _), (2, _), (6, _), (7, _)] ⟨rfl, rfl, rfl, rfl, trivial⟩ ?_)
    refine T_region rfl ?_
    refine O_y hs (Y_move rfl ?_)
    refine O_y hs (Y_add (c := ((i + 1 : Nat) : Int)) rfl rfl (by omega) (by omega) ?_)
    refine O_y hs (Y_assign rfl ?_)
    refine O_nil ⟨_, ?_, [(1, _), (2, _), (6, _), (7, _)], ⟨rfl, rfl, rfl, rfl, trivial⟩, ⟨i + 1, _, _, by omega, rfl, rfl, by rw [low_take b i (by omega), List.length_append, List.map_append]; exact hs⟩⟩
    omega
  · -- h40: False
    dsimp only [cmpP] at h40
    refine O_nil (T_sub [(1, _), (2, _), (6, _), (7, _), (40, _)] ⟨rfl, rfl, rfl, rfl, rfl, trivial⟩ ?_)
    refine T_condF rfl (T_exit ?_)
    refine T_seq (T_region rfl ?_)
    refine O_y hs (Y_move rfl ?_)
    refine O_y hs (Y_assign rfl ?_)
    refine O_y hs (Y_assign rfl ?_)
    refine O_nil (T_sub [(4, _), (5, _)] ⟨rfl, rfl, trivial⟩ ?_)
    refine T_ret ?_
    refine Rt_fin (vs := [_, _]) Tryz.results11 rfl ⟨rfl, rfl, trivial⟩ ?_
    try dsimp only [tup]
    obtain rfl : i = b.length := by omega
    rw [List.take_length] at hs
    obtain ⟨G', hG, hf, hs3⟩ := hs.fixRow noM
    rw [hd]
    exact ⟨G', [], hs3.done, rfl, _, rfl, hf⟩

set_option maxHeartbeats 400000 in
set_option maxRecDepth 10000 in
theorem rdo_2 {G : Ghost} {v vb : Value} {old new b : List UInt8} (ho : OpR G v ⟨2, old, new⟩) (hb : Bytes G vb b) (hv : validO ⟨2, old, new⟩ = true) (hl : b.length ≤ 100000000) :
    FnOk Tryz.prog 11 [v, vb] G [] fun r G' H' => H' = [] ∧ ∃ u, r = .tuple #[u, .bool (doF ⟨2, old, new⟩ b).isSome] ∧ Bytes G' u ((doF ⟨2, old, new⟩ b).getD []) := by
  obtain ⟨u1, u2, hve, ho1, ho2⟩ := ho
  subst hve
  dsimp only at ho1 ho2
  obtain ⟨A1, c1, rfl, _⟩ := id ho1
  obtain ⟨A2, c2, rfl, _⟩ := id ho2
  obtain ⟨A, cap, rfl, _⟩ := id hb
  dsimp only
  have hd : doF ⟨2, old, new⟩ b = some (b.map upperF) := by unfold doF; rw [if_neg (by simp [hv])]; simp
  refine FnOk.of_T [(0, _), (1, _)] Tryz.func11 rfl Tryz.ntmps11 (by simp) rfl fun w0 hs => ?_
  have hb0 := hb
  have ho10 := ho1
  have ho20 := ho2
  refine T_seq (T_region rfl ?_)
  refine O_s (S_box hs rfl (cs := [_, _, _]) rfl fun b2 _ hs => ?_)
  refine O_y hs (Y_assign rfl ?_)
  refine O_y hs (Y_assign rfl ?_)
  refine O_nil (T_sub [(1, _), (2, _)] ⟨rfl, rfl, trivial⟩ ?_)
  refine T_seq (T_seq (T_region rfl ?_))
  refine O_y hs (Y_ldA 0 Tryz.isAgg24 Tryz.sizeOf24 rfl rfl (vs := [_, _, _]) rfl rfl ?_)
  refine O_s (S_call (H1 := []) hs rfl Tryz.func13 rfl (by kernel_rfl) (rvalid_ok (o := ⟨2, old, new⟩) ⟨_, _, rfl, ho1, ho2⟩) fun v1 G' H' _ hR hG10 hs => ?_)
  obtain ⟨rfl, rfl⟩ := hR
  replace hs : St _ _ [_] _ := hs
  replace hb := hb.mono hG10
  replace ho1 := ho1.mono hG10
  replace ho2 := ho2.mono hG10
  refine O_y hs (Y_cmpF rfl rfl rfl (by simp [cmpP, hv]) ?_)
  refine O_nil (T_sub [(1, _), (2, _), (11, _)] ⟨rfl, rfl, rfl, trivial⟩ ?_)
  refine T_condF rfl (T_skip ?_)
  refine T_seq (T_seq (T_region rfl ?_))
  refine O_y hs (Y_fieldAddr FO24_0 rfl (m := 0) rfl ?_)
  refine O_y hs (Y_ld 0 Tryz.isAgg3 rfl rfl rfl ?_)
  refine O_nil (T_sub [(1, _), (2, _), (13, _)] ⟨rfl, rfl, rfl, trivial⟩ ?_)
  refine T_block (T_seq (T_seq (T_region rfl ?_)))
  refine O_y hs (Y_cmpF rfl rfl rfl (by decide) ?_)
  refine O_y hs (Y_assign rfl ?_)
  refine O_nil (T_sub [(1, _), (2, _), (13, _), (14, _)] ⟨rfl, rfl, rfl, rfl, trivial⟩ ?_)
  refine T_condF rfl (T_region rfl ?_)
  refine O_y hs (Y_cmpF rfl rfl rfl (by decide) ?_)
  refine O_y hs (Y_assign rfl ?_)
  refine O_nil (T_sub [(1, _), (2, _), (13, _), (14, _)] ⟨rfl, rfl, rfl, rfl, trivial⟩ ?_)
  refine T_condF rfl (T_seq (T_region rfl ?_))
  refine O_y hs (Y_cmpF rfl rfl rfl (by decide) ?_)
  refine O_y hs (Y_assign rfl ?_)
  refine O_nil (T_sub [(1, _), (2, _), (13, _), (24, _)] ⟨rfl, rfl, rfl, rfl, trivial⟩ ?_)
  refine T_condF rfl (T_seq (T_region rfl ?_))
  refine O_y hs (Y_cmpF rfl rfl rfl (by decide) ?_)
  refine O_y hs (Y_assign rfl ?_)
  refine O_nil (T_sub [(1, _), (2, _), (29, _)] ⟨rfl, rfl, rfl, trivial⟩ ?_)
  refine T_condF rfl (T_skip ?_)
  refine T_seq (T_region rfl ?_)
  refine O_s (S_lit hs Tryz.underlying22 Tryz.sizeOf5 Tryz.zeroValue5 rfl rfl (by decide) (by decide) rfl (cs := []) rfl rfl fun v2 _ hs _ => ?_)
  refine O_y hs (Y_assign rfl ?_)
  refine O_nil (T_sub [(1, _), (2, _), (6, _)] ⟨rfl, rfl, rfl, trivial⟩ ?_)
  refine T_seq (T_seq (T_region rfl ?_))
  refine O_y hs (Y_assign rfl ?_)
  refine O_nil (T_sub [(1, _), (2, _), (6, _), (7, _)] ⟨rfl, rfl, rfl, rfl, trivial⟩ ?_)
  refine T_block (T_loop (fun m E w => ∃ (i : Nat) (v6 : Value) (G' : Ghost), i ≤ b.length ∧ m = b.length - i ∧ E = ⟨[], [(1, (.slice A b.length cap)), (2, .pointer (some ⟨b2, 0, none⟩)), (6, v6), (7, .int .i64 (i : Int))]⟩ ∧ St ⟨w0, G, feet []⟩ G' [.row 5 1 v6 ((b.take i).map upperF).length (((b.take i).map upperF).map byteV), .blk b2 24 [.int .i64 2, .slice A1 old.length c1, .slice A2 new.length c2]] w) (L := [(1, _), (2, _), (6, _), (7, _)]) ⟨rfl, rfl, rfl, rfl, trivial⟩ (⟨0, _, _, by omega, rfl, rfl, hs⟩) fun m E w hI => ?_)
  obtain ⟨i, v6, G', hi, rfl, rfl, hs⟩ := hI
  have hb := hb0.mono hs.le
  have ho1 := ho10.mono hs.le
  have ho2 := ho20.mono hs.le
  have hgl : ((b.take i).map upperF).length ≤ i := by rw [List.length_map, List.length_take]; omega
  refine T_seq (T_seq (T_region rfl ?_))
  refine O_y hs (Y_move rfl ?_)
  refine O_y hs (Y_move rfl ?_)
  refine O_y hs (Y_len Tryz.underlying22 rfl ?_)
  refine O_y hs (Y_cmpS rfl rfl rfl (fun h40 => ?_) (fun h40 => ?_))
  · -- h40: True
    dsimp only [cmpP] at h40
    refine O_nil (T_sub [(1, _), (2, _), (6, _), (7, _), (40, _)] ⟨rfl, rfl, rfl, rfl, rfl, trivial⟩ ?_)
    refine T_condT rfl (T_skip ?_)
    refine T_seq (T_block (T_seq (T_region rfl ?_)))
    refine O_y hs (Y_move rfl ?_)
    refine O_y hs (Y_move rfl ?_)
    refine O_y hs (Y_idxB hb i Tryz.underlying22 Tryz.sizeOf5 rfl rfl rfl (by omega) fun p45 hp45 => ?_)
    refine O_y hs (Y_ldG Tryz.isAgg5 rfl (hp45) ?_)
    refine O_y hs (Y_assign rfl ?_)
    refine O_nil (T_sub [(1, _), (2, _), (6, _), (7, _), (8, _)] ⟨rfl, rfl, rfl, rfl, rfl, trivial⟩ ?_)
    refine T_seq (T_seq (T_region rfl ?_))
    refine O_y hs (Y_fieldAddr FO24_0 rfl (m := 0) rfl ?_)
    refine O_y hs (Y_ld 1 Tryz.isAgg3 rfl rfl rfl ?_)
    refine O_y hs (Y_cmpF rfl rfl rfl (by decide) ?_)
    refine O_y hs (Y_move rfl ?_)
    refine O_no 50 rfl rfl ?_
    refine O_no 50 rfl rfl ?_
    refine O_no 50 rfl rfl ?_
    refine O_no 50 rfl rfl ?_
    refine O_y hs (Y_pickF rfl rfl ?_)
    refine O_y hs (Y_move rfl ?_)
    refine O_yy 56 hs rfl rfl (Y_fieldAddr FO24_0 rfl (m := 0) rfl ?_)
    refine O_yy 56 hs rfl rfl (Y_ld 1 Tryz.isAgg3 rfl rfl rfl ?_)
    refine O_yy 56 hs rfl rfl (Y_cmpF rfl rfl rfl (by decide) ?_)
    refine O_yy 56 hs rfl rfl (Y_move rfl ?_)
    refine O_no 60 rfl rfl ?_
    refine O_no 60 rfl rfl ?_
    refine O_yy 56 hs rfl rfl (Y_pickF rfl rfl ?_)
    refine O_yy 56 hs rfl rfl (Y_move rfl ?_)
    refine O_no 64 rfl rfl ?_
    refine O_no 64 rfl rfl ?_
    refine O_no 64 rfl rfl ?_
    refine O_no 64 rfl rfl ?_
    refine O_no 64 rfl rfl ?_
    refine O_no 64 rfl rfl ?_
    refine O_yy 56 hs rfl rfl (Y_pickF rfl rfl ?_)
    refine O_yy 56 hs rfl rfl (Y_move rfl ?_)
    refine O_no 72 rfl rfl ?_
    refine O_no 72 rfl rfl ?_
    refine O_no 72 rfl rfl ?_
    refine O_no 72 rfl rfl ?_
    refine O_no 72 rfl rfl ?_
    refine O_no 72 rfl rfl ?_
    refine O_no 72 rfl rfl ?_
    refine O_yy 56 hs rfl rfl (Y_pickF rfl rfl ?_)
    refine O_y hs (Y_pickF rfl rfl ?_)
    refine O_nil (T_sub [(1, _), (2, _), (6, _), (7, _), (8, _), (81, _)] ⟨rfl, rfl, rfl, rfl, rfl, rfl, trivial⟩ ?_)
    refine T_condF rfl (T_skip ?_)
    refine T_seq (T_seq (T_region rfl ?_))
    refine O_y hs (Y_fieldAddr FO24_0 rfl (m := 0) rfl ?_)
    refine O_y hs (Y_ld 1 Tryz.isAgg3 rfl rfl rfl ?_)
    refine O_y hs (Y_cmpF rfl rfl rfl (by decide) ?_)
    refine O_nil (T_sub [(1, _), (2, _), (6, _), (7, _), (8, _), (84, _)] ⟨rfl, rfl, rfl, rfl, rfl, rfl, trivial⟩ ?_)
    refine T_condF rfl (T_skip ?_)
    refine T_seq (T_seq (T_region rfl ?_))
    refine O_y hs (Y_fieldAddr FO24_0 rfl (m := 0) rfl ?_)
    refine O_y hs (Y_ld 1 Tryz.isAgg3 rfl rfl rfl ?_)
    refine O_y hs (Y_cmpT rfl rfl rfl (by decide) ?_)
    refine O_nil (T_sub [(1, _), (2, _), (6, _), (7, _), (8, _), (89, _)] ⟨rfl, rfl, rfl, rfl, rfl, rfl, trivial⟩ ?_)
    refine T_condT rfl (T_region rfl ?_)
    refine O_y hs (Y_move rfl ?_)
    refine O_s (S_call (H1 := []) hs rfl Tryz.func32 rfl (by kernel_rfl) (letter_up (x := (b[i]'(by omega)))) fun v3 G' H' _ hR hG91 hs => ?_)
    obtain ⟨rfl, rfl⟩ := hR
    replace hs : St _ _ [_, _] _ := hs
    replace hb := hb.mono hG91
    replace ho1 := ho1.mono hG91
    replace ho2 := ho2.mono hG91
    refine O_y hs (Y_assign rfl ?_)
    refine O_nil (T_sub [(1, _), (2, _), (6, _), (7, _), (8, _)] ⟨rfl, rfl, rfl, rfl, rfl, trivial⟩ ?_)
    refine T_region rfl ?_
    refine O_y hs (Y_move rfl ?_)
    refine O_y hs (Y_move rfl ?_)
    refine O_s (S_lit hs Tryz.underlying22 Tryz.sizeOf5 Tryz.zeroValue5 rfl rfl (by decide) (by decide) rfl (cs := [_]) rfl rfl fun v4 _ hs _ => ?_)
    obtain ⟨_, hG94, hl94, hs⟩ := hs.fixRow noM
    replace hb := hb.mono hG94
    replace ho1 := ho1.mono hG94
    replace ho2 := ho2.mono hG94
    refine O_s (S_append hs Tryz.underlying22 TI5 rfl (by decide) rfl rfl (hl94) (one1 rfl) (by omega) (by omega) fun v5 _ hs => ?_)
    refine O_y hs (Y_assign rfl ?_)
    refine O_nil (T_sub [(1, _), (2, _), (6, _), (7, _)] ⟨rfl, rfl, rfl, rfl, trivial⟩ ?_)
    refine T_region rfl ?_
    refine O_y hs (Y_move rfl ?_)
    refine O_y hs (Y_add (c := ((i + 1 : Nat) : Int)) rfl rfl (by omega) (by omega) ?_)
    refine O_y hs (Y_assign rfl ?_)
    refine O_nil ⟨_, ?_, [(1, _), (2, _), (6, _), (7, _)], ⟨rfl, rfl, rfl, rfl, trivial⟩, ⟨i + 1, _, _, by omega, rfl, rfl, by rw [up_take b i (by omega), List.length_append, List.map_append]; exact hs⟩⟩
    omega
  · -- h40: False
    dsimp only [cmpP] at h40
    refine O_nil (T_sub [(1, _), (2, _), (6, _), (7, _), (40, _)] ⟨rfl, rfl, rfl, rfl, rfl, trivial⟩ ?_)
    refine T_condF rfl (T_exit ?_)
    refine T_seq (T_region rfl ?_)
    refine O_y hs (Y_move rfl ?_)
    refine O_y hs (Y_assign rfl ?_)
    refine O_y hs (Y_assign rfl ?_)
    refine O_nil (T_sub [(4, _), (5, _)] ⟨rfl, rfl, trivial⟩ ?_)
    refine T_ret ?_
    refine Rt_fin (vs := [_, _]) Tryz.results11 rfl ⟨rfl, rfl, trivial⟩ ?_
    try dsimp only [tup]
    obtain rfl : i = b.length := by omega
    rw [List.take_length] at hs
    obtain ⟨G', hG, hf, hs3⟩ := hs.fixRow noM
    rw [hd]
    exact ⟨G', [], hs3.done, rfl, _, rfl, hf⟩

set_option maxHeartbeats 400000 in
set_option maxRecDepth 10000 in
theorem rdo_3 {G : Ghost} {v vb : Value} {old new b : List UInt8} (ho : OpR G v ⟨3, old, new⟩) (hb : Bytes G vb b) (hv : validO ⟨3, old, new⟩ = true) (hl : b.length ≤ 100000000) :
    FnOk Tryz.prog 11 [v, vb] G [] fun r G' H' => H' = [] ∧ ∃ u, r = .tuple #[u, .bool (doF ⟨3, old, new⟩ b).isSome] ∧ Bytes G' u ((doF ⟨3, old, new⟩ b).getD []) := by
  obtain ⟨u1, u2, hve, ho1, ho2⟩ := ho
  subst hve
  dsimp only at ho1 ho2
  obtain ⟨A1, c1, rfl, _⟩ := id ho1
  obtain ⟨A2, c2, rfl, _⟩ := id ho2
  obtain ⟨A, cap, rfl, _⟩ := id hb
  dsimp only
  have hd : doF ⟨3, old, new⟩ b = percF false 0 b := by unfold doF; rw [if_neg (by simp [hv])]; simp
  refine FnOk.of_T [(0, _), (1, _)] Tryz.func11 rfl Tryz.ntmps11 (by simp) rfl fun w0 hs => ?_
  have hb0 := hb
  have ho10 := ho1
  have ho20 := ho2
  refine T_seq (T_region rfl ?_)
  refine O_s (S_box hs rfl (cs := [_, _, _]) rfl fun b2 _ hs => ?_)
  refine O_y hs (Y_assign rfl ?_)
  refine O_y hs (Y_assign rfl ?_)
  refine O_nil (T_sub [(1, _), (2, _)] ⟨rfl, rfl, trivial⟩ ?_)
  refine T_seq (T_seq (T_region rfl ?_))
  refine O_y hs (Y_ldA 0 Tryz.isAgg24 Tryz.sizeOf24 rfl rfl (vs := [_, _, _]) rfl rfl ?_)
  refine O_s (S_call (H1 := []) hs rfl Tryz.func13 rfl (by kernel_rfl) (rvalid_ok (o := ⟨3, old, new⟩) ⟨_, _, rfl, ho1, ho2⟩) fun v1 G' H' _ hR hG10 hs => ?_)
  obtain ⟨rfl, rfl⟩ := hR
  replace hs : St _ _ [_] _ := hs
  replace hb := hb.mono hG10
  replace ho1 := ho1.mono hG10
  replace ho2 := ho2.mono hG10
  refine O_y hs (Y_cmpF rfl rfl rfl (by simp [cmpP, hv]) ?_)
  refine O_nil (T_sub [(1, _), (2, _), (11, _)] ⟨rfl, rfl, rfl, trivial⟩ ?_)
  refine T_condF rfl (T_skip ?_)
  refine T_seq (T_seq (T_region rfl ?_))
  refine O_y hs (Y_fieldAddr FO24_0 rfl (m := 0) rfl ?_)
  refine O_y hs (Y_ld 0 Tryz.isAgg3 rfl rfl rfl ?_)
  refine O_nil (T_sub [(1, _), (2, _), (13, _)] ⟨rfl, rfl, rfl, trivial⟩ ?_)
  refine T_block (T_seq (T_seq (T_region rfl ?_)))
  refine O_y hs (Y_cmpT rfl rfl rfl (by decide) ?_)
  refine O_y hs (Y_assign rfl ?_)
  refine O_nil (T_sub [(1, _), (2, _), (13, _), (14, _)] ⟨rfl, rfl, rfl, rfl, trivial⟩ ?_)
  refine T_condT rfl (T_skip ?_)
  refine T_condT rfl (T_seq (T_region rfl ?_))
  refine O_y hs (Y_move rfl ?_)
  refine O_y hs (Y_fieldAddr FO24_0 rfl (m := 0) rfl ?_)
  refine O_y hs (Y_ld 0 Tryz.isAgg3 rfl rfl rfl ?_)
  refine O_y hs (Y_cmpF rfl rfl rfl (by decide) ?_)
  refine O_s (S_call (H1 := []) hs rfl Tryz.func29 rfl (by kernel_rfl) (percent_f hb (by omega)) fun v2 G' H' _ hR hG21 hs => ?_)
  obtain ⟨rfl, u21, rfl, hu21⟩ := hR
  replace hs : St _ _ [_] _ := hs
  replace hb := hb.mono hG21
  replace ho1 := ho1.mono hG21
  replace ho2 := ho2.mono hG21
  refine O_y hs (Y_extract rfl rfl ?_)
  refine O_y hs (Y_extract rfl rfl ?_)
  refine O_y hs (Y_assign rfl ?_)
  refine O_y hs (Y_assign rfl ?_)
  refine O_nil (T_sub [(4, _), (5, _)] ⟨rfl, rfl, trivial⟩ ?_)
  refine T_ret ?_
  refine Rt_fin (vs := [_, _]) Tryz.results11 rfl ⟨rfl, rfl, trivial⟩ ?_
  try dsimp only [tup]
  rw [hd]
  exact ⟨_, [], hs.done, rfl, _, rfl, hu21⟩

set_option maxHeartbeats 400000 in
set_option maxRecDepth 10000 in
theorem rdo_4 {G : Ghost} {v vb : Value} {old new b : List UInt8} (ho : OpR G v ⟨4, old, new⟩) (hb : Bytes G vb b) (hv : validO ⟨4, old, new⟩ = true) (hl : b.length ≤ 100000000) :
    FnOk Tryz.prog 11 [v, vb] G [] fun r G' H' => H' = [] ∧ ∃ u, r = .tuple #[u, .bool (doF ⟨4, old, new⟩ b).isSome] ∧ Bytes G' u ((doF ⟨4, old, new⟩ b).getD []) := by
  obtain ⟨u1, u2, hve, ho1, ho2⟩ := ho
  subst hve
  dsimp only at ho1 ho2
  obtain ⟨A1, c1, rfl, _⟩ := id ho1
  obtain ⟨A2, c2, rfl, _⟩ := id ho2
  obtain ⟨A, cap, rfl, _⟩ := id hb
  dsimp only
  have hd : doF ⟨4, old, new⟩ b = percF true 0 b := by unfold doF; rw [if_neg (by simp [hv])]; simp
  refine FnOk.of_T [(0, _), (1, _)] Tryz.func11 rfl Tryz.ntmps11 (by simp) rfl fun w0 hs => ?_
  have hb0 := hb
  have ho10 := ho1
  have ho20 := ho2
  refine T_seq (T_region rfl ?_)
  refine O_s (S_box hs rfl (cs := [_, _, _]) rfl fun b2 _ hs => ?_)
  refine O_y hs (Y_assign rfl ?_)
  refine O_y hs (Y_assign rfl ?_)
  refine O_nil (T_sub [(1, _), (2, _)] ⟨rfl, rfl, trivial⟩ ?_)
  refine T_seq (T_seq (T_region rfl ?_))
  refine O_y hs (Y_ldA 0 Tryz.isAgg24 Tryz.sizeOf24 rfl rfl (vs := [_, _, _]) rfl rfl ?_)
  refine O_s (S_call (H1 := []) hs rfl Tryz.func13 rfl (by kernel_rfl) (rvalid_ok (o := ⟨4, old, new⟩) ⟨_, _, rfl, ho1, ho2⟩) fun v1 G' H' _ hR hG10 hs => ?_)
  obtain ⟨rfl, rfl⟩ := hR
  replace hs : St _ _ [_] _ := hs
  replace hb := hb.mono hG10
  replace ho1 := ho1.mono hG10
  replace ho2 := ho2.mono hG10
  refine O_y hs (Y_cmpF rfl rfl rfl (by simp [cmpP, hv]) ?_)
  refine O_nil (T_sub [(1, _), (2, _), (11, _)] ⟨rfl, rfl, rfl, trivial⟩ ?_)
  refine T_condF rfl (T_skip ?_)
  refine T_seq (T_seq (T_region rfl ?_))
  refine O_y hs (Y_fieldAddr FO24_0 rfl (m := 0) rfl ?_)
  refine O_y hs (Y_ld 0 Tryz.isAgg3 rfl rfl rfl ?_)
  refine O_nil (T_sub [(1, _), (2, _), (13, _)] ⟨rfl, rfl, rfl, trivial⟩ ?_)
  refine T_block (T_seq (T_seq (T_region rfl ?_)))
  refine O_y hs (Y_cmpF rfl rfl rfl (by decide) ?_)
  refine O_y hs (Y_assign rfl ?_)
  refine O_nil (T_sub [(1, _), (2, _), (13, _), (14, _)] ⟨rfl, rfl, rfl, rfl, trivial⟩ ?_)
  refine T_condF rfl (T_region rfl ?_)
  refine O_y hs (Y_cmpT rfl rfl rfl (by decide) ?_)
  refine O_y hs (Y_assign rfl ?_)
  refine O_nil (T_sub [(1, _), (2, _), (13, _), (14, _)] ⟨rfl, rfl, rfl, rfl, trivial⟩ ?_)
  refine T_condT rfl (T_seq (T_region rfl ?_))
  refine O_y hs (Y_move rfl ?_)
  refine O_y hs (Y_fieldAddr FO24_0 rfl (m := 0) rfl ?_)
  refine O_y hs (Y_ld 0 Tryz.isAgg3 rfl rfl rfl ?_)
  refine O_y hs (Y_cmpT rfl rfl rfl (by decide) ?_)
  refine O_s (S_call (H1 := []) hs rfl Tryz.func29 rfl (by kernel_rfl) (percent_t hb (by omega)) fun v2 G' H' _ hR hG21 hs => ?_)
  obtain ⟨rfl, u21, rfl, hu21⟩ := hR
  replace hs : St _ _ [_] _ := hs
  replace hb := hb.mono hG21
  replace ho1 := ho1.mono hG21
  replace ho2 := ho2.mono hG21
  refine O_y hs (Y_extract rfl rfl ?_)
  refine O_y hs (Y_extract rfl rfl ?_)
  refine O_y hs (Y_assign rfl ?_)
  refine O_y hs (Y_assign rfl ?_)
  refine O_nil (T_sub [(4, _), (5, _)] ⟨rfl, rfl, trivial⟩ ?_)
  refine T_ret ?_
  refine Rt_fin (vs := [_, _]) Tryz.results11 rfl ⟨rfl, rfl, trivial⟩ ?_
  try dsimp only [tup]
  rw [hd]
  exact ⟨_, [], hs.done, rfl, _, rfl, hu21⟩

set_option maxHeartbeats 400000 in
set_option maxRecDepth 10000 in
theorem rdo_5 {G : Ghost} {v vb : Value} {old new b : List UInt8} (ho : OpR G v ⟨5, old, new⟩) (hb : Bytes G vb b) (hv : validO ⟨5, old, new⟩ = true) (hl : b.length ≤ 100000000) (h1 : 0 < old.length) (hol : old.length ≤ 8) (hn4 : new.length ≤ 4) :
    FnOk Tryz.prog 11 [v, vb] G [] fun r G' H' => H' = [] ∧ ∃ u, r = .tuple #[u, .bool (doF ⟨5, old, new⟩ b).isSome] ∧ Bytes G' u ((doF ⟨5, old, new⟩ b).getD []) := by
  obtain ⟨u1, u2, hve, ho1, ho2⟩ := ho
  subst hve
  dsimp only at ho1 ho2
  obtain ⟨A1, c1, rfl, _⟩ := id ho1
  obtain ⟨A2, c2, rfl, _⟩ := id ho2
  obtain ⟨A, cap, rfl, _⟩ := id hb
  dsimp only
  have hd : doF ⟨5, old, new⟩ b = some (repF old new 1 0 b) := by unfold doF; rw [if_neg (by simp [hv])]; simp
  refine FnOk.of_T [(0, _), (1, _)] Tryz.func11 rfl Tryz.ntmps11 (by simp) rfl fun w0 hs => ?_
  have hb0 := hb
  have ho10 := ho1
  have ho20 := ho2
  refine T_seq (T_region rfl ?_)
  refine O_s (S_box hs rfl (cs := [_, _, _]) rfl fun b2 _ hs => ?_)
  refine O_y hs (Y_assign rfl ?_)
  refine O_y hs (Y_assign rfl ?_)
  refine O_nil (T_sub [(1, _), (2, _)] ⟨rfl, rfl, trivial⟩ ?_)
  refine T_seq (T_seq (T_region rfl ?_))
  refine O_y hs (Y_ldA 0 Tryz.isAgg24 Tryz.sizeOf24 rfl rfl (vs := [_, _, _]) rfl rfl ?_)
  refine O_s (S_call (H1 := []) hs rfl Tryz.func13 rfl (by kernel_rfl) (rvalid_ok (o := ⟨5, old, new⟩) ⟨_, _, rfl, ho1, ho2⟩) fun v1 G' H' _ hR hG10 hs => ?_)
  obtain ⟨rfl, rfl⟩ := hR
  replace hs : St _ _ [_] _ := hs
  replace hb := hb.mono hG10
  replace ho1 := ho1.mono hG10
  replace ho2 := ho2.mono hG10
  refine O_y hs (Y_cmpF rfl rfl rfl (by simp [cmpP, hv]) ?_)
  refine O_nil (T_sub [(1, _), (2, _), (11, _)] ⟨rfl, rfl, rfl, trivial⟩ ?_)
  refine T_condF rfl (T_skip ?_)
  refine T_seq (T_seq (T_region rfl ?_))
  refine O_y hs (Y_fieldAddr FO24_0 rfl (m := 0) rfl ?_)
  refine O_y hs (Y_ld 0 Tryz.isAgg3 rfl rfl rfl ?_)
  refine O_nil (T_sub [(1, _), (2, _), (13, _)] ⟨rfl, rfl, rfl, trivial⟩ ?_)
  refine T_block (T_seq (T_seq (T_region rfl ?_)))
  refine O_y hs (Y_cmpF rfl rfl rfl (by decide) ?_)
  refine O_y hs (Y_assign rfl ?_)
  refine O_nil (T_sub [(1, _), (2, _), (13, _), (14, _)] ⟨rfl, rfl, rfl, rfl, trivial⟩ ?_)
  refine T_condF rfl (T_region rfl ?_)
  refine O_y hs (Y_cmpF rfl rfl rfl (by decide) ?_)
  refine O_y hs (Y_assign rfl ?_)
  refine O_nil (T_sub [(1, _), (2, _), (13, _), (14, _)] ⟨rfl, rfl, rfl, rfl, trivial⟩ ?_)
  refine T_condF rfl (T_seq (T_region rfl ?_))
  refine O_y hs (Y_cmpT rfl rfl rfl (by decide) ?_)
  refine O_y hs (Y_assign rfl ?_)
  refine O_nil (T_sub [(1, _), (2, _), (13, _), (24, _)] ⟨rfl, rfl, rfl, rfl, trivial⟩ ?_)
  refine T_condT rfl (T_seq (T_region rfl ?_))
  refine O_y hs (Y_ldA 0 Tryz.isAgg24 Tryz.sizeOf24 rfl rfl (vs := [_, _, _]) rfl rfl ?_)
  refine O_y hs (Y_move rfl ?_)
  refine O_s (S_call (H1 := []) hs rfl Tryz.func30 rfl (by kernel_rfl) (replace_ok (o := ⟨5, old, new⟩) (n := 1) ⟨_, _, rfl, ho1, ho2⟩ hb h1 hol hn4 hl (by omega)) fun v2 G' H' _ hR hG28 hs => ?_)
  obtain ⟨rfl, hu⟩ := hR
  replace hs : St _ _ [_] _ := hs
  replace hb := hb.mono hG28
  replace ho1 := ho1.mono hG28
  replace ho2 := ho2.mono hG28
  refine O_y hs (Y_assign rfl ?_)
  refine O_y hs (Y_assign rfl ?_)
  refine O_nil (T_sub [(4, _), (5, _)] ⟨rfl, rfl, trivial⟩ ?_)
  refine T_ret ?_
  refine Rt_fin (vs := [_, _]) Tryz.results11 rfl ⟨rfl, rfl, trivial⟩ ?_
  try dsimp only [tup]
  rw [hd]
  exact ⟨_, [], hs.done, rfl, _, rfl, hu⟩

set_option maxHeartbeats 400000 in
set_option maxRecDepth 10000 in
theorem rdo_6 {G : Ghost} {v vb : Value} {old new b : List UInt8} (ho : OpR G v ⟨6, old, new⟩) (hb : Bytes G vb b) (hv : validO ⟨6, old, new⟩ = true) (hl : b.length ≤ 100000000) (h1 : 0 < old.length) (hol : old.length ≤ 8) (hn4 : new.length ≤ 4) :
    FnOk Tryz.prog 11 [v, vb] G [] fun r G' H' => H' = [] ∧ ∃ u, r = .tuple #[u, .bool (doF ⟨6, old, new⟩ b).isSome] ∧ Bytes G' u ((doF ⟨6, old, new⟩ b).getD []) := by
  obtain ⟨u1, u2, hve, ho1, ho2⟩ := ho
  subst hve
  dsimp only at ho1 ho2
  obtain ⟨A1, c1, rfl, _⟩ := id ho1
  obtain ⟨A2, c2, rfl, _⟩ := id ho2
  obtain ⟨A, cap, rfl, _⟩ := id hb
  dsimp only
  have hd : doF ⟨6, old, new⟩ b = some (repF old new b.length 0 b) := by unfold doF; rw [if_neg (by simp [hv])]; simp
  refine FnOk.of_T [(0, _), (1, _)] Tryz.func11 rfl Tryz.ntmps11 (by simp) rfl fun w0 hs => ?_
  have hb0 := hb
  have ho10 := ho1
  have ho20 := ho2
  refine T_seq (T_region rfl ?_)
  refine O_s (S_box hs rfl (cs := [_, _, _]) rfl fun b2 _ hs => ?_)
  refine O_y hs (Y_assign rfl ?_)
  refine O_y hs (Y_assign rfl ?_)
  refine O_nil (T_sub [(1, _), (2, _)] ⟨rfl, rfl, trivial⟩ ?_)
  refine T_seq (T_seq (T_region rfl ?_))
  refine O_y hs (Y_ldA 0 Tryz.isAgg24 Tryz.sizeOf24 rfl rfl (vs := [_, _, _]) rfl rfl ?_)
  refine O_s (S_call (H1 := []) hs rfl Tryz.func13 rfl (by kernel_rfl) (rvalid_ok (o := ⟨6, old, new⟩) ⟨_, _, rfl, ho1, ho2⟩) fun v1 G' H' _ hR hG10 hs => ?_)
  obtain ⟨rfl, rfl⟩ := hR
  replace hs : St _ _ [_] _ := hs
  replace hb := hb.mono hG10
  replace ho1 := ho1.mono hG10
  replace ho2 := ho2.mono hG10
  refine O_y hs (Y_cmpF rfl rfl rfl (by simp [cmpP, hv]) ?_)
  refine O_nil (T_sub [(1, _), (2, _), (11, _)] ⟨rfl, rfl, rfl, trivial⟩ ?_)
  refine T_condF rfl (T_skip ?_)
  refine T_seq (T_seq (T_region rfl ?_))
  refine O_y hs (Y_fieldAddr FO24_0 rfl (m := 0) rfl ?_)
  refine O_y hs (Y_ld 0 Tryz.isAgg3 rfl rfl rfl ?_)
  refine O_nil (T_sub [(1, _), (2, _), (13, _)] ⟨rfl, rfl, rfl, trivial⟩ ?_)
  refine T_block (T_seq (T_seq (T_region rfl ?_)))
  refine O_y hs (Y_cmpF rfl rfl rfl (by decide) ?_)
  refine O_y hs (Y_assign rfl ?_)
  refine O_nil (T_sub [(1, _), (2, _), (13, _), (14, _)] ⟨rfl, rfl, rfl, rfl, trivial⟩ ?_)
  refine T_condF rfl (T_region rfl ?_)
  refine O_y hs (Y_cmpF rfl rfl rfl (by decide) ?_)
  refine O_y hs (Y_assign rfl ?_)
  refine O_nil (T_sub [(1, _), (2, _), (13, _), (14, _)] ⟨rfl, rfl, rfl, rfl, trivial⟩ ?_)
  refine T_condF rfl (T_seq (T_region rfl ?_))
  refine O_y hs (Y_cmpF rfl rfl rfl (by decide) ?_)
  refine O_y hs (Y_assign rfl ?_)
  refine O_nil (T_sub [(1, _), (2, _), (13, _), (24, _)] ⟨rfl, rfl, rfl, rfl, trivial⟩ ?_)
  refine T_condF rfl (T_seq (T_region rfl ?_))
  refine O_y hs (Y_cmpT rfl rfl rfl (by decide) ?_)
  refine O_y hs (Y_assign rfl ?_)
  refine O_nil (T_sub [(1, _), (2, _), (29, _)] ⟨rfl, rfl, rfl, trivial⟩ ?_)
  refine T_condT rfl (T_seq (T_region rfl ?_))
  refine O_y hs (Y_ldA 0 Tryz.isAgg24 Tryz.sizeOf24 rfl rfl (vs := [_, _, _]) rfl rfl ?_)
  refine O_y hs (Y_move rfl ?_)
  refine O_y hs (Y_move rfl ?_)
  refine O_y hs (Y_len Tryz.underlying22 rfl ?_)
  refine O_s (S_call (H1 := []) hs rfl Tryz.func30 rfl (by kernel_rfl) (replace_ok (o := ⟨6, old, new⟩) (n := b.length) ⟨_, _, rfl, ho1, ho2⟩ hb h1 hol hn4 hl (by omega)) fun v2 G' H' _ hR hG35 hs => ?_)
  obtain ⟨rfl, hu⟩ := hR
  replace hs : St _ _ [_] _ := hs
  replace hb := hb.mono hG35
  replace ho1 := ho1.mono hG35
  replace ho2 := ho2.mono hG35
  refine O_y hs (Y_assign rfl ?_)
  refine O_y hs (Y_assign rfl ?_)
  refine O_nil (T_sub [(4, _), (5, _)] ⟨rfl, rfl, trivial⟩ ?_)
  refine T_ret ?_
  refine Rt_fin (vs := [_, _]) Tryz.results11 rfl ⟨rfl, rfl, trivial⟩ ?_
  try dsimp only [tup]
  rw [hd]
  exact ⟨_, [], hs.done, rfl, _, rfl, hu⟩

set_option maxHeartbeats 400000 in
set_option maxRecDepth 10000 in
theorem rdo_7 {G : Ghost} {v vb : Value} {old new b : List UInt8} (ho : OpR G v ⟨7, old, new⟩) (hb : Bytes G vb b) (hv : validO ⟨7, old, new⟩ = true) (hl : b.length ≤ 100000000) (hol : old.length ≤ 8) :
    FnOk Tryz.prog 11 [v, vb] G [] fun r G' H' => H' = [] ∧ ∃ u, r = .tuple #[u, .bool (doF ⟨7, old, new⟩ b).isSome] ∧ Bytes G' u ((doF ⟨7, old, new⟩ b).getD []) := by
  obtain ⟨u1, u2, hve, ho1, ho2⟩ := ho
  subst hve
  dsimp only at ho1 ho2
  obtain ⟨A1, c1, rfl, _⟩ := id ho1
  obtain ⟨A2, c2, rfl, _⟩ := id ho2
  obtain ⟨A, cap, rfl, _⟩ := id hb
  dsimp only
  have hd : doF ⟨7, old, new⟩ b = some (b.filter fun x => !old.contains x) := by unfold doF; rw [if_neg (by simp [hv])]; simp
  refine FnOk.of_T [(0, _), (1, _)] Tryz.func11 rfl Tryz.ntmps11 (by simp) rfl fun w0 hs => ?_
  have hb0 := hb
  have ho10 := ho1
  have ho20 := ho2
  refine T_seq (T_region rfl ?_)
  refine O_s (S_box hs rfl (cs := [_, _, _]) rfl fun b2 _ hs => ?_)
  refine O_y hs (Y_assign rfl ?_)
  refine O_y hs (Y_assign rfl ?_)
  refine O_nil (T_sub [(1, _), (2, _)] ⟨rfl, rfl, trivial⟩ ?_)
  refine T_seq (T_seq (T_region rfl ?_))
  refine O_y hs (Y_ldA 0 Tryz.isAgg24 Tryz.sizeOf24 rfl rfl (vs := [_, _, _]) rfl rfl ?_)
  refine O_s (S_call (H1 := []) hs rfl Tryz.func13 rfl (by kernel_rfl) (rvalid_ok (o := ⟨7, old, new⟩) ⟨_, _, rfl, ho1, ho2⟩) fun v1 G' H' _ hR hG10 hs => ?_)
  obtain ⟨rfl, rfl⟩ := hR
  replace hs : St _ _ [_] _ := hs
  replace hb := hb.mono hG10
  replace ho1 := ho1.mono hG10
  replace ho2 := ho2.mono hG10
  refine O_y hs (Y_cmpF rfl rfl rfl (by simp [cmpP, hv]) ?_)
  refine O_nil (T_sub [(1, _), (2, _), (11, _)] ⟨rfl, rfl, rfl, trivial⟩ ?_)
  refine T_condF rfl (T_skip ?_)
  refine T_seq (T_seq (T_region rfl ?_))
  refine O_y hs (Y_fieldAddr FO24_0 rfl (m := 0) rfl ?_)
  refine O_y hs (Y_ld 0 Tryz.isAgg3 rfl rfl rfl ?_)
  refine O_nil (T_sub [(1, _), (2, _), (13, _)] ⟨rfl, rfl, rfl, trivial⟩ ?_)
  refine T_block (T_seq (T_seq (T_region rfl ?_)))
  refine O_y hs (Y_cmpF rfl rfl rfl (by decide) ?_)
  refine O_y hs (Y_assign rfl ?_)
  refine O_nil (T_sub [(1, _), (2, _), (13, _), (14, _)] ⟨rfl, rfl, rfl, rfl, trivial⟩ ?_)
  refine T_condF rfl (T_region rfl ?_)
  refine O_y hs (Y_cmpF rfl rfl rfl (by decide) ?_)
  refine O_y hs (Y_assign rfl ?_)
  refine O_nil (T_sub [(1, _), (2, _), (13, _), (14, _)] ⟨rfl, rfl, rfl, rfl, trivial⟩ ?_)
  refine T_condF rfl (T_seq (T_region rfl ?_))
  refine O_y hs (Y_cmpF rfl rfl rfl (by decide) ?_)
  refine O_y hs (Y_assign rfl ?_)
  refine O_nil (T_sub [(1, _), (2, _), (13, _), (24, _)] ⟨rfl, rfl, rfl, rfl, trivial⟩ ?_)
  refine T_condF rfl (T_seq (T_region rfl ?_))
  refine O_y hs (Y_cmpF rfl rfl rfl (by decide) ?_)
  refine O_y hs (Y_assign rfl ?_)
  refine O_nil (T_sub [(1, _), (2, _), (29, _)] ⟨rfl, rfl, rfl, trivial⟩ ?_)
  refine T_condF rfl (T_skip ?_)
  refine T_seq (T_region rfl ?_)
  refine O_s (S_lit hs Tryz.underlying22 Tryz.sizeOf5 Tryz.zeroValue5 rfl rfl (by decide) (by decide) rfl (cs := []) rfl rfl fun v2 _ hs _ => ?_)
  refine O_y hs (Y_assign rfl ?_)
  refine O_nil (T_sub [(1, _), (2, _), (6, _)] ⟨rfl, rfl, rfl, trivial⟩ ?_)
  refine T_seq (T_seq (T_region rfl ?_))
  refine O_y hs (Y_assign rfl ?_)
  refine O_nil (T_sub [(1, _), (2, _), (6, _), (7, _)] ⟨rfl, rfl, rfl, rfl, trivial⟩ ?_)
  refine T_block (T_loop (fun m E w => ∃ (i : Nat) (v6 : Value) (G' : Ghost), i ≤ b.length ∧ m = b.length - i ∧ E = ⟨[], [(1, (.slice A b.length cap)), (2, .pointer (some ⟨b2, 0, none⟩)), (6, v6), (7, .int .i64 (i : Int))]⟩ ∧ St ⟨w0, G, feet []⟩ G' [.row 5 1 v6 ((b.take i).filter fun x => !old.contains x).length (((b.take i).filter fun x => !old.contains x).map byteV), .blk b2 24 [.int .i64 7, .slice A1 old.length c1, .slice A2 new.length c2]] w) (L := [(1, _), (2, _), (6, _), (7, _)]) ⟨rfl, rfl, rfl, rfl, trivial⟩ (⟨0, _, _, by omega, rfl, rfl, hs⟩) fun m E w hI => ?_)
  obtain ⟨i, v6, G', hi, rfl, rfl, hs⟩ := hI
  have hb := hb0.mono hs.le
  have ho1 := ho10.mono hs.le
  have ho2 := ho20.mono hs.le
  have hgl : ((b.take i).filter fun x => !old.contains x).length ≤ i := Nat.le_trans (List.length_filter_le _ _) (by rw [List.length_take]; omega)
  refine T_seq (T_seq (T_region rfl ?_))
  refine O_y hs (Y_move rfl ?_)
  refine O_y hs (Y_move rfl ?_)
  refine O_y hs (Y_len Tryz.underlying22 rfl ?_)
  refine O_y hs (Y_cmpS rfl rfl rfl (fun h40 => ?_) (fun h40 => ?_))
  · -- h40: True
    dsimp only [cmpP] at h40
    refine O_nil (T_sub [(1, _), (2, _), (6, _), (7, _), (40, _)] ⟨rfl, rfl, rfl, rfl, rfl, trivial⟩ ?_)
    refine T_condT rfl (T_skip ?_)
    refine T_seq (T_block (T_seq (T_region rfl ?_)))
    refine O_y hs (Y_move rfl ?_)
    refine O_y hs (Y_move rfl ?_)
    refine O_y hs (Y_idxB hb i Tryz.underlying22 Tryz.sizeOf5 rfl rfl rfl (by omega) fun p45 hp45 => ?_)
    refine O_y hs (Y_ldG Tryz.isAgg5 rfl (hp45) ?_)
    refine O_y hs (Y_assign rfl ?_)
    refine O_nil (T_sub [(1, _), (2, _), (6, _), (7, _), (8, _)] ⟨rfl, rfl, rfl, rfl, rfl, trivial⟩ ?_)
    refine T_seq (T_seq (T_region rfl ?_))
    refine O_y hs (Y_fieldAddr FO24_0 rfl (m := 0) rfl ?_)
    refine O_y hs (Y_ld 1 Tryz.isAgg3 rfl rfl rfl ?_)
    refine O_y hs (Y_cmpT rfl rfl rfl (by decide) ?_)
    refine O_y hs (Y_move rfl ?_)
    refine O_yy 50 hs rfl rfl (Y_fieldAddr FO24_1 rfl (m := 1) rfl ?_)
    refine O_yy 50 hs rfl rfl (Y_ld 1 Tryz.isAgg22 rfl rfl rfl ?_)
    refine O_yy 50 hs rfl rfl (Y_move rfl ?_)
    refine O_yes 50 rfl rfl (S_call (H1 := []) hs rfl Tryz.func31 rfl (by kernel_rfl) (in_ok (x := (b[i]'(by omega))) ho1 (by omega)) fun v3 G' H' _ hR hG54 hs => ?_)
    obtain ⟨rfl, rfl⟩ := hR
    replace hs : St _ _ [_, _] _ := hs
    replace hb := hb.mono hG54
    replace ho1 := ho1.mono hG54
    replace ho2 := ho2.mono hG54
    cases hq : old.contains (b[i]'(by omega))
    · -- hq: False
      refine O_y hs (Y_pickT rfl rfl ?_)
      refine O_y hs (Y_move rfl ?_)
      refine O_yy 56 hs rfl rfl (Y_fieldAddr FO24_0 rfl (m := 0) rfl ?_)
      refine O_yy 56 hs rfl rfl (Y_ld 1 Tryz.isAgg3 rfl rfl rfl ?_)
      refine O_yy 56 hs rfl rfl (Y_cmpF rfl rfl rfl (by decide) ?_)
      refine O_yy 56 hs rfl rfl (Y_move rfl ?_)
      refine O_no 60 rfl rfl ?_
      refine O_no 60 rfl rfl ?_
      refine O_yy 56 hs rfl rfl (Y_pickF rfl rfl ?_)
      refine O_yy 56 hs rfl rfl (Y_move rfl ?_)
      refine O_no 64 rfl rfl ?_
      refine O_no 64 rfl rfl ?_
      refine O_no 64 rfl rfl ?_
      refine O_no 64 rfl rfl ?_
      refine O_no 64 rfl rfl ?_
      refine O_no 64 rfl rfl ?_
      refine O_yy 56 hs rfl rfl (Y_pickF rfl rfl ?_)
      refine O_yy 56 hs rfl rfl (Y_move rfl ?_)
      refine O_no 72 rfl rfl ?_
      refine O_no 72 rfl rfl ?_
      refine O_no 72 rfl rfl ?_
      refine O_no 72 rfl rfl ?_
      refine O_no 72 rfl rfl ?_
      refine O_no 72 rfl rfl ?_
      refine O_no 72 rfl rfl ?_
      refine O_yy 56 hs rfl rfl (Y_pickF rfl rfl ?_)
      refine O_y hs (Y_pickF rfl rfl ?_)
      refine O_nil (T_sub [(1, _), (2, _), (6, _), (7, _), (8, _), (81, _)] ⟨rfl, rfl, rfl, rfl, rfl, rfl, trivial⟩ ?_)
      refine T_condF rfl (T_skip ?_)
      refine T_seq (T_seq (T_region rfl ?_))
      refine O_y hs (Y_fieldAddr FO24_0 rfl (m := 0) rfl ?_)
      refine O_y hs (Y_ld 1 Tryz.isAgg3 rfl rfl rfl ?_)
      refine O_y hs (Y_cmpF rfl rfl rfl (by decide) ?_)
      refine O_nil (T_sub [(1, _), (2, _), (6, _), (7, _), (8, _), (84, _)] ⟨rfl, rfl, rfl, rfl, rfl, rfl, trivial⟩ ?_)
      refine T_condF rfl (T_skip ?_)
      refine T_seq (T_seq (T_region rfl ?_))
      refine O_y hs (Y_fieldAddr FO24_0 rfl (m := 0) rfl ?_)
      refine O_y hs (Y_ld 1 Tryz.isAgg3 rfl rfl rfl ?_)
      refine O_y hs (Y_cmpF rfl rfl rfl (by decide) ?_)
      refine O_nil (T_sub [(1, _), (2, _), (6, _), (7, _), (8, _), (89, _)] ⟨rfl, rfl, rfl, rfl, rfl, rfl, trivial⟩ ?_)
      refine T_condF rfl (T_skip ?_)
      refine T_region rfl ?_
      refine O_y hs (Y_move rfl ?_)
      refine O_y hs (Y_move rfl ?_)
      refine O_s (S_lit hs Tryz.underlying22 Tryz.sizeOf5 Tryz.zeroValue5 rfl rfl (by decide) (by decide) rfl (cs := [_]) rfl rfl fun v4 _ hs _ => ?_)
      obtain ⟨_, hG94, hl94, hs⟩ := hs.fixRow noM
      replace hb := hb.mono hG94
      replace ho1 := ho1.mono hG94
      replace ho2 := ho2.mono hG94
      refine O_s (S_append hs Tryz.underlying22 TI5 rfl (by decide) rfl rfl (hl94) (one1 rfl) (by omega) (by omega) fun v5 _ hs => ?_)
      refine O_y hs (Y_assign rfl ?_)
      refine O_nil (T_sub [(1, _), (2, _), (6, _), (7, _)] ⟨rfl, rfl, rfl, rfl, trivial⟩ ?_)
      refine T_region rfl ?_
      refine O_y hs (Y_move rfl ?_)
      refine O_y hs (Y_add (c := ((i + 1 : Nat) : Int)) rfl rfl (by omega) (by omega) ?_)
      refine O_y hs (Y_assign rfl ?_)
      refine O_nil ⟨_, ?_, [(1, _), (2, _), (6, _), (7, _)], ⟨rfl, rfl, rfl, rfl, trivial⟩, ⟨i + 1, _, _, by omega, rfl, rfl, by rw [drop_take_f old b i (by omega) hq, List.length_append, List.map_append]; exact hs⟩⟩
      omega
    · -- hq: True
      refine O_y hs (Y_pickT rfl rfl ?_)
      refine O_y hs (Y_move rfl ?_)
      refine O_no 56 rfl rfl ?_
      refine O_no 56 rfl rfl ?_
      refine O_no 56 rfl rfl ?_
      refine O_no 56 rfl rfl ?_
      refine O_noU 60 rfl rfl ?_
      refine O_noU 60 rfl rfl ?_
      refine O_no 56 rfl rfl ?_
      refine O_no 56 rfl rfl ?_
      refine O_noU 64 rfl rfl ?_
      refine O_noU 64 rfl rfl ?_
      refine O_noU 64 rfl rfl ?_
      refine O_noU 64 rfl rfl ?_
      refine O_noU 64 rfl rfl ?_
      refine O_noU 64 rfl rfl ?_
      refine O_no 56 rfl rfl ?_
      refine O_no 56 rfl rfl ?_
      refine O_noU 72 rfl rfl ?_
      refine O_noU 72 rfl rfl ?_
      refine O_noU 72 rfl rfl ?_
      refine O_noU 72 rfl rfl ?_
      refine O_noU 72 rfl rfl ?_
      refine O_noU 72 rfl rfl ?_
      refine O_noU 72 rfl rfl ?_
      refine O_no 56 rfl rfl ?_
      refine O_y hs (Y_pickT rfl rfl ?_)
      refine O_nil (T_sub [(1, _), (2, _), (6, _), (7, _), (8, _), (81, _)] ⟨rfl, rfl, rfl, rfl, rfl, rfl, trivial⟩ ?_)
      refine T_condT rfl (T_exit ?_)
      refine T_region rfl ?_
      refine O_y hs (Y_move rfl ?_)
      refine O_y hs (Y_add (c := ((i + 1 : Nat) : Int)) rfl rfl (by omega) (by omega) ?_)
      refine O_y hs (Y_assign rfl ?_)
      refine O_nil ⟨_, ?_, [(1, _), (2, _), (6, _), (7, _)], ⟨rfl, rfl, rfl, rfl, trivial⟩, ⟨i + 1, _, _, by omega, rfl, rfl, by rw [drop_take_t old b i (by omega) hq]; exact hs⟩⟩
      omega
  · -- h40: False
    dsimp only [cmpP] at h40
    refine O_nil (T_sub [(1, _), (2, _), (6, _), (7, _), (40, _)] ⟨rfl, rfl, rfl, rfl, rfl, trivial⟩ ?_)
    refine T_condF rfl (T_exit ?_)
    refine T_seq (T_region rfl ?_)
    refine O_y hs (Y_move rfl ?_)
    refine O_y hs (Y_assign rfl ?_)
    refine O_y hs (Y_assign rfl ?_)
    refine O_nil (T_sub [(4, _), (5, _)] ⟨rfl, rfl, trivial⟩ ?_)
    refine T_ret ?_
    refine Rt_fin (vs := [_, _]) Tryz.results11 rfl ⟨rfl, rfl, trivial⟩ ?_
    try dsimp only [tup]
    obtain rfl : i = b.length := by omega
    rw [List.take_length] at hs
    obtain ⟨G', hG, hf, hs3⟩ := hs.fixRow noM
    rw [hd]
    exact ⟨G', [], hs3.done, rfl, _, rfl, hf⟩

set_option maxHeartbeats 400000 in
set_option maxRecDepth 10000 in
theorem rdo_8 {G : Ghost} {v vb : Value} {old new b : List UInt8} (ho : OpR G v ⟨8, old, new⟩) (hb : Bytes G vb b) (hv : validO ⟨8, old, new⟩ = true) (hl : b.length ≤ 100000000) {c : UInt8} (hc : old = [c]) :
    FnOk Tryz.prog 11 [v, vb] G [] fun r G' H' => H' = [] ∧ ∃ u, r = .tuple #[u, .bool (doF ⟨8, old, new⟩ b).isSome] ∧ Bytes G' u ((doF ⟨8, old, new⟩ b).getD []) := by
  obtain ⟨u1, u2, hve, ho1, ho2⟩ := ho
  subst hve
  dsimp only at ho1 ho2
  obtain ⟨A1, c1, rfl, _⟩ := id ho1
  obtain ⟨A2, c2, rfl, _⟩ := id ho2
  obtain ⟨A, cap, rfl, _⟩ := id hb
  dsimp only
  have hc0 : ∀ h : 0 < old.length, old[0] = c := fun h => by simp [hc]
  have hc1 : 0 < old.length := by rw [hc]; exact Nat.zero_lt_one
  have hd : doF ⟨8, old, new⟩ b = some (sqF c false b) := by unfold doF; rw [if_neg (by simp [hv])]; simp [hc]
  refine FnOk.of_T [(0, _), (1, _)] Tryz.func11 rfl Tryz.ntmps11 (by simp) rfl fun w0 hs => ?_
  have hb0 := hb
  have ho10 := ho1
  have ho20 := ho2
  refine T_seq (T_region rfl ?_)
  refine O_s (S_box hs rfl (cs := [_, _, _]) rfl fun b2 _ hs => ?_)
  refine O_y hs (Y_assign rfl ?_)
  refine O_y hs (Y_assign rfl ?_)
  refine O_nil (T_sub [(1, _), (2, _)] ⟨rfl, rfl, trivial⟩ ?_)
  refine T_seq (T_seq (T_region rfl ?_))
  refine O_y hs (Y_ldA 0 Tryz.isAgg24 Tryz.sizeOf24 rfl rfl (vs := [_, _, _]) rfl rfl ?_)
  refine O_s (S_call (H1 := []) hs rfl Tryz.func13 rfl (by kernel_rfl) (rvalid_ok (o := ⟨8, old, new⟩) ⟨_, _, rfl, ho1, ho2⟩) fun v1 G' H' _ hR hG10 hs => ?_)
  obtain ⟨rfl, rfl⟩ := hR
  replace hs : St _ _ [_] _ := hs
  replace hb := hb.mono hG10
  replace ho1 := ho1.mono hG10
  replace ho2 := ho2.mono hG10
  refine O_y hs (Y_cmpF rfl rfl rfl (by simp [cmpP, hv]) ?_)
  refine O_nil (T_sub [(1, _), (2, _), (11, _)] ⟨rfl, rfl, rfl, trivial⟩ ?_)
  refine T_condF rfl (T_skip ?_)
  refine T_seq (T_seq (T_region rfl ?_))
  refine O_y hs (Y_fieldAddr FO24_0 rfl (m := 0) rfl ?_)
  refine O_y hs (Y_ld 0 Tryz.isAgg3 rfl rfl rfl ?_)
  refine O_nil (T_sub [(1, _), (2, _), (13, _)] ⟨rfl, rfl, rfl, trivial⟩ ?_)
  refine T_block (T_seq (T_seq (T_region rfl ?_)))
  refine O_y hs (Y_cmpF rfl rfl rfl (by decide) ?_)
  refine O_y hs (Y_assign rfl ?_)
  refine O_nil (T_sub [(1, _), (2, _), (13, _), (14, _)] ⟨rfl, rfl, rfl, rfl, trivial⟩ ?_)
  refine T_condF rfl (T_region rfl ?_)
  refine O_y hs (Y_cmpF rfl rfl rfl (by decide) ?_)
  refine O_y hs (Y_assign rfl ?_)
  refine O_nil (T_sub [(1, _), (2, _), (13, _), (14, _)] ⟨rfl, rfl, rfl, rfl, trivial⟩ ?_)
  refine T_condF rfl (T_seq (T_region rfl ?_))
  refine O_y hs (Y_cmpF rfl rfl rfl (by decide) ?_)
  refine O_y hs (Y_assign rfl ?_)
  refine O_nil (T_sub [(1, _), (2, _), (13, _), (24, _)] ⟨rfl, rfl, rfl, rfl, trivial⟩ ?_)
  refine T_condF rfl (T_seq (T_region rfl ?_))
  refine O_y hs (Y_cmpF rfl rfl rfl (by decide) ?_)
  refine O_y hs (Y_assign rfl ?_)
  refine O_nil (T_sub [(1, _), (2, _), (29, _)] ⟨rfl, rfl, rfl, trivial⟩ ?_)
  refine T_condF rfl (T_skip ?_)
  refine T_seq (T_region rfl ?_)
  refine O_s (S_lit hs Tryz.underlying22 Tryz.sizeOf5 Tryz.zeroValue5 rfl rfl (by decide) (by decide) rfl (cs := []) rfl rfl fun v2 _ hs _ => ?_)
  refine O_y hs (Y_assign rfl ?_)
  refine O_nil (T_sub [(1, _), (2, _), (6, _)] ⟨rfl, rfl, rfl, trivial⟩ ?_)
  refine T_seq (T_seq (T_region rfl ?_))
  refine O_y hs (Y_assign rfl ?_)
  refine O_nil (T_sub [(1, _), (2, _), (6, _), (7, _)] ⟨rfl, rfl, rfl, rfl, trivial⟩ ?_)
  refine T_block (T_loop (fun m E w => ∃ (i : Nat) (v6 : Value) (G' : Ghost), i ≤ b.length ∧ m = b.length - i ∧ E = ⟨[], [(1, (.slice A b.length cap)), (2, .pointer (some ⟨b2, 0, none⟩)), (6, v6), (7, .int .i64 (i : Int))]⟩ ∧ St ⟨w0, G, feet []⟩ G' [.row 5 1 v6 (sqF c false (b.take i)).length ((sqF c false (b.take i)).map byteV), .blk b2 24 [.int .i64 8, .slice A1 old.length c1, .slice A2 new.length c2]] w) (L := [(1, _), (2, _), (6, _), (7, _)]) ⟨rfl, rfl, rfl, rfl, trivial⟩ (⟨0, _, _, by omega, rfl, rfl, hs⟩) fun m E w hI => ?_)
  obtain ⟨i, v6, G', hi, rfl, rfl, hs⟩ := hI
  have hb := hb0.mono hs.le
  have ho1 := ho10.mono hs.le
  have ho2 := ho20.mono hs.le
  have hgl : (sqF c false (b.take i)).length ≤ i := Nat.le_trans (sqF_len _ _ _) (by rw [List.length_take]; omega)
  refine T_seq (T_seq (T_region rfl ?_))
  refine O_y hs (Y_move rfl ?_)
  refine O_y hs (Y_move rfl ?_)
  refine O_y hs (Y_len Tryz.underlying22 rfl ?_)
  refine O_y hs (Y_cmpS rfl rfl rfl (fun h40 => ?_) (fun h40 => ?_))
  · -- h40: True
    dsimp only [cmpP] at h40
    refine O_nil (T_sub [(1, _), (2, _), (6, _), (7, _), (40, _)] ⟨rfl, rfl, rfl, rfl, rfl, trivial⟩ ?_)
    refine T_condT rfl (T_skip ?_)
    refine T_seq (T_block (T_seq (T_region rfl ?_)))
    refine O_y hs (Y_move rfl ?_)
    refine O_y hs (Y_move rfl ?_)
    refine O_y hs (Y_idxB hb i Tryz.underlying22 Tryz.sizeOf5 rfl rfl rfl (by omega) fun p45 hp45 => ?_)
    refine O_y hs (Y_ldG Tryz.isAgg5 rfl (hp45) ?_)
    refine O_y hs (Y_assign rfl ?_)
    refine O_nil (T_sub [(1, _), (2, _), (6, _), (7, _), (8, _)] ⟨rfl, rfl, rfl, rfl, rfl, trivial⟩ ?_)
    refine T_seq (T_seq (T_region rfl ?_))
    refine O_y hs (Y_fieldAddr FO24_0 rfl (m := 0) rfl ?_)
    refine O_y hs (Y_ld 1 Tryz.isAgg3 rfl rfl rfl ?_)
    refine O_y hs (Y_cmpF rfl rfl rfl (by decide) ?_)
    refine O_y hs (Y_move rfl ?_)
    refine O_no 50 rfl rfl ?_
    refine O_no 50 rfl rfl ?_
    refine O_no 50 rfl rfl ?_
    refine O_no 50 rfl rfl ?_
    refine O_y hs (Y_pickF rfl rfl ?_)
    refine O_y hs (Y_move rfl ?_)
    refine O_yy 56 hs rfl rfl (Y_fieldAddr FO24_0 rfl (m := 0) rfl ?_)
    refine O_yy 56 hs rfl rfl (Y_ld 1 Tryz.isAgg3 rfl rfl rfl ?_)
    refine O_yy 56 hs rfl rfl (Y_cmpT rfl rfl rfl (by decide) ?_)
    refine O_yy 56 hs rfl rfl (Y_move rfl ?_)
    refine O_yy 60 hs rfl rfl (Y_move rfl ?_)
    refine O_yy 60 hs rfl rfl (Y_cmpS rfl rfl rfl (fun h62 => ?_) (fun h62 => ?_))
    · -- h62: True
      dsimp only [cmpP] at h62
      refine O_yy 56 hs rfl rfl (Y_pickT rfl rfl ?_)
      refine O_yy 56 hs rfl rfl (Y_move rfl ?_)
      refine O_yy 64 hs rfl rfl (Y_move rfl ?_)
      refine O_yy 64 hs rfl rfl (Y_fieldAddr FO24_1 rfl (m := 1) rfl ?_)
      refine O_yy 64 hs rfl rfl (Y_ld 1 Tryz.isAgg22 rfl rfl rfl ?_)
      refine O_yy 64 hs rfl rfl (Y_idxB ho1 0 Tryz.underlying22 Tryz.sizeOf5 rfl rfl rfl (by rw [hc]; exact Nat.zero_lt_one) fun p68 hp68 => ?_)
      refine O_yy 64 hs rfl rfl (Y_ldG Tryz.isAgg5 rfl (hp68) ?_)
      refine O_yy 64 hs rfl rfl (Y_cmpS rfl rfl rfl (fun h70 => ?_) (fun h70 => ?_))
      · -- h70: True
        dsimp only [cmpP] at h70
        refine O_yy 56 hs rfl rfl (Y_pickT rfl rfl ?_)
        refine O_yy 56 hs rfl rfl (Y_move rfl ?_)
        refine O_yy 72 hs rfl rfl (Y_move rfl ?_)
        refine O_yy 72 hs rfl rfl (Y_move rfl ?_)
        refine O_yy 72 hs rfl rfl (Y_sub (c := ((i - 1 : Nat) : Int)) rfl rfl (by omega) (by omega) ?_)
        refine O_yy 72 hs rfl rfl (Y_idxB hb (i - 1) Tryz.underlying22 Tryz.sizeOf5 rfl rfl rfl (by omega) fun p76 hp76 => ?_)
        refine O_yy 72 hs rfl rfl (Y_ldG Tryz.isAgg5 rfl (hp76) ?_)
        refine O_yy 72 hs rfl rfl (Y_move rfl ?_)
        refine O_yy 72 hs rfl rfl (Y_cmpS rfl rfl rfl (fun h79 => ?_) (fun h79 => ?_))
        · -- h79: True
          dsimp only [cmpP] at h79
          refine O_yy 56 hs rfl rfl (Y_pickT rfl rfl ?_)
          refine O_y hs (Y_pickF rfl rfl ?_)
          refine O_nil (T_sub [(1, _), (2, _), (6, _), (7, _), (8, _), (81, _)] ⟨rfl, rfl, rfl, rfl, rfl, rfl, trivial⟩ ?_)
          refine T_condT rfl (T_exit ?_)
          refine T_region rfl ?_
          refine O_y hs (Y_move rfl ?_)
          refine O_y hs (Y_add (c := ((i + 1 : Nat) : Int)) rfl rfl (by omega) (by omega) ?_)
          refine O_y hs (Y_assign rfl ?_)
          refine O_nil ⟨_, ?_, [(1, _), (2, _), (6, _), (7, _)], ⟨rfl, rfl, rfl, rfl, trivial⟩, ⟨i + 1, _, _, by omega, rfl, rfl, by rw [sq_take_t c b i (by omega) (by omega) ((u8i h70).trans (hc0 hc1)) (u8i h79)]; exact hs⟩⟩
          omega
        · -- h79: False
          dsimp only [cmpP] at h79
          refine O_yy 56 hs rfl rfl (Y_pickT rfl rfl ?_)
          refine O_y hs (Y_pickF rfl rfl ?_)
          refine O_nil (T_sub [(1, _), (2, _), (6, _), (7, _), (8, _), (81, _)] ⟨rfl, rfl, rfl, rfl, rfl, rfl, trivial⟩ ?_)
          refine T_condF rfl (T_skip ?_)
          refine T_seq (T_seq (T_region rfl ?_))
          refine O_y hs (Y_fieldAddr FO24_0 rfl (m := 0) rfl ?_)
          refine O_y hs (Y_ld 1 Tryz.isAgg3 rfl rfl rfl ?_)
          refine O_y hs (Y_cmpF rfl rfl rfl (by decide) ?_)
          refine O_nil (T_sub [(1, _), (2, _), (6, _), (7, _), (8, _), (84, _)] ⟨rfl, rfl, rfl, rfl, rfl, rfl, trivial⟩ ?_)
          refine T_condF rfl (T_skip ?_)
          refine T_seq (T_seq (T_region rfl ?_))
          refine O_y hs (Y_fieldAddr FO24_0 rfl (m := 0) rfl ?_)
          refine O_y hs (Y_ld 1 Tryz.isAgg3 rfl rfl rfl ?_)
          refine O_y hs (Y_cmpF rfl rfl rfl (by decide) ?_)
          refine O_nil (T_sub [(1, _), (2, _), (6, _), (7, _), (8, _), (89, _)] ⟨rfl, rfl, rfl, rfl, rfl, rfl, trivial⟩ ?_)
          refine T_condF rfl (T_skip ?_)
          refine T_region rfl ?_
          refine O_y hs (Y_move rfl ?_)
          refine O_y hs (Y_move rfl ?_)
          refine O_s (S_lit hs Tryz.underlying22 Tryz.sizeOf5 Tryz.zeroValue5 rfl rfl (by decide) (by decide) rfl (cs := [_]) rfl rfl fun v3 _ hs _ => ?_)
          obtain ⟨_, hG94, hl94, hs⟩ := hs.fixRow noM
          replace hb := hb.mono hG94
          replace ho1 := ho1.mono hG94
          replace ho2 := ho2.mono hG94
          refine O_s (S_append hs Tryz.underlying22 TI5 rfl (by decide) rfl rfl (hl94) (one1 rfl) (by omega) (by omega) fun v4 _ hs => ?_)
          refine O_y hs (Y_assign rfl ?_)
          refine O_nil (T_sub [(1, _), (2, _), (6, _), (7, _)] ⟨rfl, rfl, rfl, rfl, trivial⟩ ?_)
          refine T_region rfl ?_
          refine O_y hs (Y_move rfl ?_)
          refine O_y hs (Y_add (c := ((i + 1 : Nat) : Int)) rfl rfl (by omega) (by omega) ?_)
          refine O_y hs (Y_assign rfl ?_)
          refine O_nil ⟨_, ?_, [(1, _), (2, _), (6, _), (7, _)], ⟨rfl, rfl, rfl, rfl, trivial⟩, ⟨i + 1, _, _, by omega, rfl, rfl, by rw [sq_take_f c b i (by omega) (by rintro ⟨e0, e1, e2⟩; first | omega | exact h70 (by rw [e1, hc0]) | exact h79 (by rw [e2])), List.length_append, List.map_append]; exact hs⟩⟩
          omega
      · -- h70: False
        dsimp only [cmpP] at h70
        refine O_yy 56 hs rfl rfl (Y_pickT rfl rfl ?_)
        refine O_yy 56 hs rfl rfl (Y_move rfl ?_)
        refine O_no 72 rfl rfl ?_
        refine O_no 72 rfl rfl ?_
        refine O_no 72 rfl rfl ?_
        refine O_no 72 rfl rfl ?_
        refine O_no 72 rfl rfl ?_
        refine O_no 72 rfl rfl ?_
        refine O_no 72 rfl rfl ?_
        refine O_yy 56 hs rfl rfl (Y_pickF rfl rfl ?_)
        refine O_y hs (Y_pickF rfl rfl ?_)
        refine O_nil (T_sub [(1, _), (2, _), (6, _), (7, _), (8, _), (81, _)] ⟨rfl, rfl, rfl, rfl, rfl, rfl, trivial⟩ ?_)
        refine T_condF rfl (T_skip ?_)
        refine T_seq (T_seq (T_region rfl ?_))
        refine O_y hs (Y_fieldAddr FO24_0 rfl (m := 0) rfl ?_)
        refine O_y hs (Y_ld 1 Tryz.isAgg3 rfl rfl rfl ?_)
        refine O_y hs (Y_cmpF rfl rfl rfl (by decide) ?_)
        refine O_nil (T_sub [(1, _), (2, _), (6, _), (7, _), (8, _), (84, _)] ⟨rfl, rfl, rfl, rfl, rfl, rfl, trivial⟩ ?_)
        refine T_condF rfl (T_skip ?_)
        refine T_seq (T_seq (T_region rfl ?_))
        refine O_y hs (Y_fieldAddr FO24_0 rfl (m := 0) rfl ?_)
        refine O_y hs (Y_ld 1 Tryz.isAgg3 rfl rfl rfl ?_)
        refine O_y hs (Y_cmpF rfl rfl rfl (by decide) ?_)
        refine O_nil (T_sub [(1, _), (2, _), (6, _), (7, _), (8, _), (89, _)] ⟨rfl, rfl, rfl, rfl, rfl, rfl, trivial⟩ ?_)
        refine T_condF rfl (T_skip ?_)
        refine T_region rfl ?_
        refine O_y hs (Y_move rfl ?_)
        refine O_y hs (Y_move rfl ?_)
        refine O_s (S_lit hs Tryz.underlying22 Tryz.sizeOf5 Tryz.zeroValue5 rfl rfl (by decide) (by decide) rfl (cs := [_]) rfl rfl fun v5 _ hs _ => ?_)
        obtain ⟨_, hG94, hl94, hs⟩ := hs.fixRow noM
        replace hb := hb.mono hG94
        replace ho1 := ho1.mono hG94
        replace ho2 := ho2.mono hG94
        refine O_s (S_append hs Tryz.underlying22 TI5 rfl (by decide) rfl rfl (hl94) (one1 rfl) (by omega) (by omega) fun v6 _ hs => ?_)
        refine O_y hs (Y_assign rfl ?_)
        refine O_nil (T_sub [(1, _), (2, _), (6, _), (7, _)] ⟨rfl, rfl, rfl, rfl, trivial⟩ ?_)
        refine T_region rfl ?_
        refine O_y hs (Y_move rfl ?_)
        refine O_y hs (Y_add (c := ((i + 1 : Nat) : Int)) rfl rfl (by omega) (by omega) ?_)
        refine O_y hs (Y_assign rfl ?_)
        refine O_nil ⟨_, ?_, [(1, _), (2, _), (6, _), (7, _)], ⟨rfl, rfl, rfl, rfl, trivial⟩, ⟨i + 1, _, _, by omega, rfl, rfl, by rw [sq_take_f c b i (by omega) (by rintro ⟨e0, e1, e2⟩; first | omega | exact h70 (by rw [e1, hc0]) | exact h79 (by rw [e2])), List.length_append, List.map_append]; exact hs⟩⟩
        omega
    · -- h62: False
      dsimp only [cmpP] at h62
      refine O_yy 56 hs rfl rfl (Y_pickT rfl rfl ?_)
      refine O_yy 56 hs rfl rfl (Y_move rfl ?_)
      refine O_no 64 rfl rfl ?_
      refine O_no 64 rfl rfl ?_
      refine O_no 64 rfl rfl ?_
      refine O_no 64 rfl rfl ?_
      refine O_no 64 rfl rfl ?_
      refine O_no 64 rfl rfl ?_
      refine O_yy 56 hs rfl rfl (Y_pickF rfl rfl ?_)
      refine O_yy 56 hs rfl rfl (Y_move rfl ?_)
      refine O_no 72 rfl rfl ?_
      refine O_no 72 rfl rfl ?_
      refine O_no 72 rfl rfl ?_
      refine O_no 72 rfl rfl ?_
      refine O_no 72 rfl rfl ?_
      refine O_no 72 rfl rfl ?_
      refine O_no 72 rfl rfl ?_
      refine O_yy 56 hs rfl rfl (Y_pickF rfl rfl ?_)
      refine O_y hs (Y_pickF rfl rfl ?_)
      refine O_nil (T_sub [(1, _), (2, _), (6, _), (7, _), (8, _), (81, _)] ⟨rfl, rfl, rfl, rfl, rfl, rfl, trivial⟩ ?_)
      refine T_condF rfl (T_skip ?_)
      refine T_seq (T_seq (T_region rfl ?_))
      refine O_y hs (Y_fieldAddr FO24_0 rfl (m := 0) rfl ?_)
      refine O_y hs (Y_ld 1 Tryz.isAgg3 rfl rfl rfl ?_)
      refine O_y hs (Y_cmpF rfl rfl rfl (by decide) ?_)
      refine O_nil (T_sub [(1, _), (2, _), (6, _), (7, _), (8, _), (84, _)] ⟨rfl, rfl, rfl, rfl, rfl, rfl, trivial⟩ ?_)
      refine T_condF rfl (T_skip ?_)
      refine T_seq (T_seq (T_region rfl ?_))
      refine O_y hs (Y_fieldAddr FO24_0 rfl (m := 0) rfl ?_)
      refine O_y hs (Y_ld 1 Tryz.isAgg3 rfl rfl rfl ?_)
      refine O_y hs (Y_cmpF rfl rfl rfl (by decide) ?_)
      refine O_nil (T_sub [(1, _), (2, _), (6, _), (7, _), (8, _), (89, _)] ⟨rfl, rfl, rfl, rfl, rfl, rfl, trivial⟩ ?_)
      refine T_condF rfl (T_skip ?_)
      refine T_region rfl ?_
      refine O_y hs (Y_move rfl ?_)
      refine O_y hs (Y_move rfl ?_)
      refine O_s (S_lit hs Tryz.underlying22 Tryz.sizeOf5 Tryz.zeroValue5 rfl rfl (by decide) (by decide) rfl (cs := [_]) rfl rfl fun v7 _ hs _ => ?_)
      obtain ⟨_, hG94, hl94, hs⟩ := hs.fixRow noM
      replace hb := hb.mono hG94
      replace ho1 := ho1.mono hG94
      replace ho2 := ho2.mono hG94
      refine O_s (S_append hs Tryz.underlying22 TI5 rfl (by decide) rfl rfl (hl94) (one1 rfl) (by omega) (by omega) fun v8 _ hs => ?_)
      refine O_y hs (Y_assign rfl ?_)
      refine O_nil (T_sub [(1, _), (2, _), (6, _), (7, _)] ⟨rfl, rfl, rfl, rfl, trivial⟩ ?_)
      refine T_region rfl ?_
      refine O_y hs (Y_move rfl ?_)
      refine O_y hs (Y_add (c := ((i + 1 : Nat) : Int)) rfl rfl (by omega) (by omega) ?_)
      refine O_y hs (Y_assign rfl ?_)
      refine O_nil ⟨_, ?_, [(1, _), (2, _), (6, _), (7, _)], ⟨rfl, rfl, rfl, rfl, trivial⟩, ⟨i + 1, _, _, by omega, rfl, rfl, by rw [sq_take_f c b i (by omega) (by rintro ⟨e0, e1, e2⟩; first | omega | exact h70 (by rw [e1, hc0]) | exact h79 (by rw [e2])), List.length_append, List.map_append]; exact hs⟩⟩
      omega
  · -- h40: False
    dsimp only [cmpP] at h40
    refine O_nil (T_sub [(1, _), (2, _), (6, _), (7, _), (40, _)] ⟨rfl, rfl, rfl, rfl, rfl, trivial⟩ ?_)
    refine T_condF rfl (T_exit ?_)
    refine T_seq (T_region rfl ?_)
    refine O_y hs (Y_move rfl ?_)
    refine O_y hs (Y_assign rfl ?_)
    refine O_y hs (Y_assign rfl ?_)
    refine O_nil (T_sub [(4, _), (5, _)] ⟨rfl, rfl, trivial⟩ ?_)
    refine T_ret ?_
    refine Rt_fin (vs := [_, _]) Tryz.results11 rfl ⟨rfl, rfl, trivial⟩ ?_
    try dsimp only [tup]
    obtain rfl : i = b.length := by omega
    rw [List.take_length] at hs
    obtain ⟨G', hG, hf, hs3⟩ := hs.fixRow noM
    rw [hd]
    exact ⟨G', [], hs3.done, rfl, _, rfl, hf⟩

set_option maxHeartbeats 400000 in
set_option maxRecDepth 10000 in
theorem rdo_bad {G : Ghost} {v vb : Value} {o : OpV} {b : List UInt8} (ho : OpR G v o) (hb : Bytes G vb b) (hv : ¬ validO o = true) :
    FnOk Tryz.prog 11 [v, vb] G [] fun r G' H' => H' = [] ∧ ∃ u, r = .tuple #[u, .bool (doF o b).isSome] ∧ Bytes G' u ((doF o b).getD []) := by
  obtain ⟨u1, u2, rfl, ho1, ho2⟩ := ho
  obtain ⟨A1, c1, rfl, _⟩ := id ho1
  obtain ⟨A2, c2, rfl, _⟩ := id ho2
  obtain ⟨A, cap, rfl, _⟩ := id hb
  have hd : doF o b = none := by unfold doF; rw [if_pos (by simpa using hv)]
  refine FnOk.of_T [(0, _), (1, _)] Tryz.func11 rfl Tryz.ntmps11 (by simp) rfl fun w0 hs => ?_
  refine T_seq (T_region rfl ?_)
  refine O_s (S_box hs rfl (cs := [_, _, _]) rfl fun b2 _ hs => ?_)
  refine O_y hs (Y_assign rfl ?_)
  refine O_y hs (Y_assign rfl ?_)
  refine O_nil (T_sub [(1, _), (2, _)] ⟨rfl, rfl, trivial⟩ ?_)
  refine T_seq (T_seq (T_region rfl ?_))
  refine O_y hs (Y_ldA 0 Tryz.isAgg24 Tryz.sizeOf24 rfl rfl (vs := [_, _, _]) rfl rfl ?_)
  refine O_s (S_call (H1 := []) hs rfl Tryz.func13 rfl (by kernel_rfl) (rvalid_ok (o := o) ⟨_, _, rfl, ho1, ho2⟩) fun v1 G' H' _ hR hG10 hs => ?_)
  obtain ⟨rfl, rfl⟩ := hR
  replace hs : St _ _ [_] _ := hs
  refine O_y hs (Y_cmpT rfl rfl rfl (by simp [cmpP, hv]) ?_)
  refine O_nil (T_sub [(1, _), (2, _), (11, _)] ⟨rfl, rfl, rfl, trivial⟩ ?_)
  refine T_condT rfl (T_seq (T_region rfl ?_))
  refine O_y hs (Y_assign rfl ?_)
  refine O_y hs (Y_assign rfl ?_)
  refine O_nil (T_sub [(4, _), (5, _)] ⟨rfl, rfl, trivial⟩ ?_)
  refine T_ret ?_
  refine Rt_fin (vs := [_, _]) Tryz.results11 rfl ⟨rfl, rfl, trivial⟩ ?_
  try dsimp only [tup]
  rw [hd]
  exact ⟨_, [], hs.done, rfl, _, rfl, Sl.nil _ _⟩

theorem rdo_ok {G : Ghost} {v vb : Value} {o : OpV} {b : List UInt8} (ho : OpR G v o) (hb : Bytes G vb b) (hl : b.length ≤ 100000000) :
    FnOk Tryz.prog 11 [v, vb] G [] fun r G' H' => H' = [] ∧ ∃ u, r = .tuple #[u, .bool (doF o b).isSome] ∧ Bytes G' u ((doF o b).getD []) := by
  by_cases hv : validO o = true
  · obtain ⟨k, old, new⟩ := o
    rcases valid_kinds hv with rfl | rfl | rfl | rfl | ⟨rfl | rfl, h1, h2, h3⟩ | rfl | ⟨rfl, c, hc⟩
    · exact rdo_1 ho hb hv hl
    · exact rdo_2 ho hb hv hl
    · exact rdo_3 ho hb hv hl
    · exact rdo_4 ho hb hv hl
    · exact rdo_5 ho hb hv hl (List.length_pos_iff.2 h1) (Nat.le_trans h2 (by omega)) h3
    · exact rdo_6 ho hb hv hl (List.length_pos_iff.2 h1) (Nat.le_trans h2 (by omega)) h3
    · have h8 := hv
      simp only [validO, sizesF] at h8
      simp at h8
      exact rdo_7 ho hb hv hl (by omega)
    · exact rdo_8 ho hb hv hl hc
  · exact rdo_bad ho hb hv


set_option maxHeartbeats 400000 in
set_option maxRecDepth 10000 in
theorem between_ok {G : Ghost} {vb vt : Value} {c : List Nat} {b t pr su : List UInt8} (hc : c.length = 4) (hb : Bytes G vb b) (ht : Bytes G vt t) (hbl : b.length ≤ 1000000000) (hsp : b = pr ++ (t ++ su)) (hpre : ∀ x ∈ pr, hasF c x = true) (hsuf : ∀ x ∈ su, hasF c x = true) :
    FnOk Tryz.prog 25 [ClsV c, vb, vt] G [] fun r _ H' => H' = [] ∧ r = .bool true := by
  obtain ⟨A, cap, rfl, _⟩ := id hb
  obtain ⟨A1, c1, rfl, _⟩ := id ht
  have hlen : b.length = pr.length + (t.length + su.length) := by have := congrArg List.length hsp; simpa using this
  refine FnOk.of_T [(0, _), (1, _), (2, _)] Tryz.func25 rfl Tryz.ntmps25 (by simp) rfl fun w0 hs => ?_
  have hb0 := hb
  have ht0 := ht
  refine T_seq (T_region rfl ?_)
  refine O_s (S_box hs rfl (cs := (List.map u64V c)) rfl fun b3 _ hs => ?_)
  refine O_y hs (Y_assign rfl ?_)
  refine O_nil (T_sub [(1, _), (2, _), (3, _)] ⟨rfl, rfl, rfl, trivial⟩ ?_)
  refine T_seq (T_seq (T_region rfl ?_))
  refine O_y hs (Y_assign rfl ?_)
  refine O_nil (T_sub [(1, _), (2, _), (3, _), (7, _)] ⟨rfl, rfl, rfl, rfl, trivial⟩ ?_)
  refine T_block (T_loop (fun m E w => ∃ (i : Nat) (G' : Ghost), i ≤ pr.length ∧ m = pr.length - i ∧ E = ⟨[], [(1, (.slice A b.length cap)), (2, (.slice A1 t.length c1)), (3, .pointer (some ⟨b3, 0, none⟩)), (7, .int .i64 (i : Int))]⟩ ∧ St ⟨w0, G, feet []⟩ G' [.blk b3 27 (List.map u64V c)] w) (L := [(1, _), (2, _), (3, _), (7, _)]) ⟨rfl, rfl, rfl, rfl, trivial⟩ (⟨0, _, by omega, rfl, rfl, hs⟩) fun m E w hI => ?_)
  obtain ⟨i, G', hi, rfl, rfl, hs⟩ := hI
  have hb := hb0.mono hs.le
  have ht := ht0.mono hs.le
  refine T_seq (T_seq (T_region rfl ?_))
  refine O_y hs (Y_move rfl ?_)
  refine O_y hs (Y_move rfl ?_)
  refine O_y hs (Y_len Tryz.underlying22 rfl ?_)
  refine O_y hs (Y_add (c := ((i + t.length : Nat) : Int)) rfl rfl (by omega) (by omega) ?_)
  refine O_y hs (Y_move rfl ?_)
  refine O_y hs (Y_len Tryz.underlying22 rfl ?_)
  refine O_y hs (Y_cmpT rfl rfl rfl (by simp only [cmpP]; omega) ?_)
  refine O_nil (T_sub [(1, _), (2, _), (3, _), (7, _), (16, _)] ⟨rfl, rfl, rfl, rfl, rfl, trivial⟩ ?_)
  refine T_condT rfl (T_skip ?_)
  refine T_seq (T_block (T_seq (T_seq (T_region rfl ?_))))
  refine O_y hs (Y_move rfl ?_)
  refine O_y hs (Y_move rfl ?_)
  refine O_y hs (Y_move rfl ?_)
  refine O_s (S_call (H1 := []) hs rfl Tryz.func21 rfl (by kernel_rfl) (at_ok ht hb (by omega) (by omega) (by omega)) fun v1 G' H' _ hR hG22 hs => ?_)
  obtain ⟨rfl, rfl⟩ := hR
  replace hs : St _ _ [_] _ := hs
  replace hb := hb.mono hG22
  replace ht := ht.mono hG22
  cases hq : t.isPrefixOf (b.drop i)
  · -- hq: False
    refine O_nil (T_sub [(1, _), (2, _), (3, _), (7, _), (22, _)] ⟨rfl, rfl, rfl, rfl, rfl, trivial⟩ ?_)
    refine T_condF rfl (T_skip ?_)
    have hip : i < pr.length := by
      rcases Nat.lt_or_ge i pr.length with h | h
      · exact h
      · obtain rfl : i = pr.length := by omega
        rw [at_pre hsp] at hq; cases hq
    refine T_seq (T_drawS [0, 1, 2, 3, 4, 5, 6, 7, 8, 9, 10, 11, 12] hs (by kernel_rfl) ?_)
    replace hs := hs.drew
    refine A_take 0 rfl (by kernel_rfl) rfl hs (Y_move rfl ?_)
    refine A_take 1 rfl (by kernel_rfl) rfl hs (Y_move rfl ?_)
    refine A_take 2 rfl (by kernel_rfl) rfl hs (Y_len Tryz.underlying22 rfl ?_)
    refine A_take 3 rfl (by kernel_rfl) rfl hs (Y_cmpT rfl rfl rfl (by simp only [cmpP]; omega) ?_)
    refine A_take 4 rfl (by kernel_rfl) rfl hs (Y_move rfl ?_)
    refine A_take 5 rfl (by kernel_rfl) rfl hs (Y_ldW 0 Tryz.isAgg27 Tryz.sizeOf27 rfl rfl (by first | omega | (simp; omega) | simp) ?_)
    refine A_take 6 rfl (by kernel_rfl) rfl hs (Y_move rfl ?_)
    refine A_take 7 rfl (by kernel_rfl) rfl hs (Y_move rfl ?_)
    refine A_take 8 rfl (by kernel_rfl) rfl hs (Y_idxB hb i Tryz.underlying22 Tryz.sizeOf5 rfl rfl rfl (by omega) fun p51 hp51 => ?_)
    refine A_take 9 rfl (by kernel_rfl) rfl hs (Y_ldG Tryz.isAgg5 rfl (hp51) ?_)
    have hle := hs.le
    refine A_only 10 rfl (by kernel_rfl) rfl (S_call (H1 := []) hs rfl Tryz.func24 rfl (by kernel_rfl) (member_ok (x := (b[i]'(by omega))) hc) fun v2 G' H' _ hR hG53 hs => ?_)
    obtain ⟨rfl, rfl⟩ := hR
    replace hs : St _ _ [_] _ := hs
    replace hb := hb.mono hG53
    replace ht := ht.mono hG53
    rw [hpre _ (pre_mem hsp hip (by omega))]
    refine A_moreS hs hle hG53 (List.Sublist.refl _) ?_
    refine A_take 11 rfl (by kernel_rfl) rfl hs (Y_not rfl ?_)
    refine A_take 12 rfl (by kernel_rfl) rfl hs (Y_pickT rfl rfl ?_)
    refine A_done (by kernel_rfl) (T_sub [(1, _), (2, _), (3, _), (7, _), (55, _)] ⟨rfl, rfl, rfl, rfl, rfl, trivial⟩ ?_)
    refine T_condF rfl (T_skip ?_)
    refine T_region rfl ?_
    refine O_y hs (Y_move rfl ?_)
    refine O_y hs (Y_add (c := ((i + 1 : Nat) : Int)) rfl rfl (by omega) (by omega) ?_)
    refine O_y hs (Y_assign rfl ?_)
    refine O_nil ⟨_, ?_, [(1, _), (2, _), (3, _), (7, _)], ⟨rfl, rfl, rfl, rfl, trivial⟩, ⟨i + 1, _, by omega, rfl, rfl, hs⟩⟩
    omega
  · -- hq: True
    refine O_nil (T_sub [(1, _), (2, _), (3, _), (7, _), (22, _)] ⟨rfl, rfl, rfl, rfl, rfl, trivial⟩ ?_)
    refine T_condT rfl (T_seq (T_region rfl ?_))
    refine O_y hs (Y_assign rfl ?_)
    refine O_nil (T_sub [(1, _), (2, _), (3, _), (7, _), (8, _)] ⟨rfl, rfl, rfl, rfl, rfl, trivial⟩ ?_)
    refine T_seq (T_seq (T_region rfl ?_))
    refine O_y hs (Y_move rfl ?_)
    refine O_y hs (Y_move rfl ?_)
    refine O_y hs (Y_len Tryz.underlying22 rfl ?_)
    refine O_y hs (Y_add (c := ((i + t.length : Nat) : Int)) rfl rfl (by omega) (by omega) ?_)
    refine O_y hs (Y_assign rfl ?_)
    refine O_nil (T_sub [(1, _), (2, _), (3, _), (7, _), (8, _), (9, _)] ⟨rfl, rfl, rfl, rfl, rfl, rfl, trivial⟩ ?_)
    refine T_block (T_loop (fun m E w => ∃ (n : Nat) (rr : Bool) (G' : Ghost), i + t.length + n ≤ b.length ∧ rr = restF c b (i + t.length) n ∧ m = b.length - (i + t.length + n) ∧ E = ⟨[], [(1, (.slice A b.length cap)), (2, (.slice A1 t.length c1)), (3, .pointer (some ⟨b3, 0, none⟩)), (7, .int .i64 (i : Int)), (8, .bool rr), (9, .int .i64 ((i + t.length + n : Nat) : Int))]⟩ ∧ St ⟨w0, G, feet []⟩ G' [.blk b3 27 (List.map u64V c)] w) (L := [(1, _), (2, _), (3, _), (7, _), (8, _), (9, _)]) ⟨rfl, rfl, rfl, rfl, rfl, rfl, trivial⟩ (⟨0, true, _, by omega, rfl, rfl, rfl, hs⟩) fun m E w hI => ?_)
    obtain ⟨n, rr, G', hn, hrr, rfl, rfl, hs⟩ := hI
    have hb := hb0.mono hs.le
    have ht := ht0.mono hs.le
    refine T_seq (T_seq (T_region rfl ?_))
    refine O_y hs (Y_move rfl ?_)
    refine O_y hs (Y_move rfl ?_)
    refine O_y hs (Y_len Tryz.underlying22 rfl ?_)
    refine O_y hs (Y_cmpS rfl rfl rfl (fun h30 => ?_) (fun h30 => ?_))
    · -- h30: True
      dsimp only [cmpP] at h30
      refine O_nil (T_sub [(1, _), (2, _), (3, _), (7, _), (8, _), (9, _), (30, _)] ⟨rfl, rfl, rfl, rfl, rfl, rfl, rfl, trivial⟩ ?_)
      refine T_condT rfl (T_skip ?_)
      refine T_seq (T_block (T_drawS [0, 1, 2, 3, 4, 5, 6, 7, 8] hs (by kernel_rfl) ?_))
      replace hs := hs.drew
      refine A_take 0 rfl (by kernel_rfl) rfl hs (Y_move rfl ?_)
      refine A_take 1 rfl (by kernel_rfl) rfl hs (Y_move rfl ?_)
      cases rr
      · -- rr: False
        refine A_skip 2 rfl (by kernel_rfl) rfl hs ?_
        refine A_skip 3 rfl (by kernel_rfl) rfl hs ?_
        refine A_skip 4 rfl (by kernel_rfl) rfl hs ?_
        refine A_skip 5 rfl (by kernel_rfl) rfl hs ?_
        refine A_skip 6 rfl (by kernel_rfl) rfl hs ?_
        refine A_skip 7 rfl (by kernel_rfl) rfl hs ?_
        refine A_take 8 rfl (by kernel_rfl) rfl hs (Y_pickF rfl rfl ?_)
        refine A_tail 9 rfl (by kernel_rfl) (by kernel_rfl) rfl (S_y hs rfl (Y_assign rfl ?_))
        refine A_done (by kernel_rfl) (T_sub [(1, _), (2, _), (3, _), (7, _), (8, _), (9, _)] ⟨rfl, rfl, rfl, rfl, rfl, rfl, trivial⟩ ?_)
        refine T_region rfl ?_
        refine O_y hs (Y_move rfl ?_)
        refine O_y hs (Y_add (c := ((i + t.length + (n + 1) : Nat) : Int)) rfl rfl (by omega) (by omega) ?_)
        refine O_y hs (Y_assign rfl ?_)
        refine O_nil ⟨_, ?_, [(1, _), (2, _), (3, _), (7, _), (8, _), (9, _)], ⟨rfl, rfl, rfl, rfl, rfl, rfl, trivial⟩, ⟨n + 1, false, _, by omega, by rw [rest_step (by omega), ← hrr, Bool.false_and], rfl, rfl, hs⟩⟩
        omega
      · -- rr: True
        refine A_take 2 rfl (by kernel_rfl) rfl hs (Y_ldW 0 Tryz.isAgg27 Tryz.sizeOf27 rfl rfl (by first | omega | (simp; omega) | simp) ?_)
        refine A_take 3 rfl (by kernel_rfl) rfl hs (Y_move rfl ?_)
        refine A_take 4 rfl (by kernel_rfl) rfl hs (Y_move rfl ?_)
        refine A_take 5 rfl (by kernel_rfl) rfl hs (Y_idxB hb (i + t.length + n) Tryz.underlying22 Tryz.sizeOf5 rfl rfl rfl (by omega) fun p38 hp38 => ?_)
        refine A_take 6 rfl (by kernel_rfl) rfl hs (Y_ldG Tryz.isAgg5 rfl (hp38) ?_)
        have hle := hs.le
        refine A_only 7 rfl (by kernel_rfl) rfl (S_call (H1 := []) hs rfl Tryz.func24 rfl (by kernel_rfl) (member_ok (x := (b[i + t.length + n]'(by omega))) hc) fun v3 G' H' _ hR hG40 hs => ?_)
        obtain ⟨rfl, rfl⟩ := hR
        replace hs : St _ _ [_] _ := hs
        replace hb := hb.mono hG40
        replace ht := ht.mono hG40
        refine A_moreS hs hle hG40 (List.Sublist.refl _) ?_
        refine A_take 8 rfl (by kernel_rfl) rfl hs (Y_pickT rfl rfl ?_)
        refine A_tail 9 rfl (by kernel_rfl) (by kernel_rfl) rfl (S_y hs rfl (Y_assign rfl ?_))
        refine A_done (by kernel_rfl) (T_sub [(1, _), (2, _), (3, _), (7, _), (8, _), (9, _)] ⟨rfl, rfl, rfl, rfl, rfl, rfl, trivial⟩ ?_)
        refine T_region rfl ?_
        refine O_y hs (Y_move rfl ?_)
        refine O_y hs (Y_add (c := ((i + t.length + (n + 1) : Nat) : Int)) rfl rfl (by omega) (by omega) ?_)
        refine O_y hs (Y_assign rfl ?_)
        refine O_nil ⟨_, ?_, [(1, _), (2, _), (3, _), (7, _), (8, _), (9, _)], ⟨rfl, rfl, rfl, rfl, rfl, rfl, trivial⟩, ⟨n + 1, hasF c (b[i + t.length + n]'(by omega)), _, by omega, by rw [rest_step (by omega), ← hrr, Bool.true_and], rfl, rfl, hs⟩⟩
        omega
    · -- h30: False
      dsimp only [cmpP] at h30
      refine O_nil (T_sub [(1, _), (2, _), (3, _), (7, _), (8, _), (9, _), (30, _)] ⟨rfl, rfl, rfl, rfl, rfl, rfl, rfl, trivial⟩ ?_)
      refine T_condF rfl (T_exit ?_)
      refine T_seq (T_region rfl ?_)
      refine O_y hs (Y_move rfl ?_)
      refine O_nil (T_sub [(1, _), (2, _), (3, _), (7, _), (42, _)] ⟨rfl, rfl, rfl, rfl, rfl, trivial⟩ ?_)
      refine T_condS rfl (fun h42 => ?_) (fun h42 => ?_)
      · -- True
        refine T_seq (T_region rfl ?_)
        refine O_y hs (Y_assign rfl ?_)
        refine O_nil (T_sub [(6, _)] ⟨rfl, trivial⟩ ?_)
        refine T_ret ?_
        refine Rt_fin (vs := [_]) Tryz.results25 rfl ⟨rfl, trivial⟩ ?_
        try dsimp only [tup]
        exact ⟨_, [], hs.done, rfl, congrArg Value.bool (by first | exact h42 | rfl)⟩
      · -- False
        refine T_skip ?_
        have hip : i < pr.length := by
          rcases Nat.lt_or_ge i pr.length with h | h
          · exact h
          · obtain rfl : i = pr.length := by omega
            rw [rest_of hsp hsuf] at hrr; rw [hrr] at h42; cases h42
        refine T_seq (T_drawS [0, 1, 2, 3, 4, 5, 6, 7, 8, 9, 10, 11, 12] hs (by kernel_rfl) ?_)
        replace hs := hs.drew
        refine A_take 0 rfl (by kernel_rfl) rfl hs (Y_move rfl ?_)
        refine A_take 1 rfl (by kernel_rfl) rfl hs (Y_move rfl ?_)
        refine A_take 2 rfl (by kernel_rfl) rfl hs (Y_len Tryz.underlying22 rfl ?_)
        refine A_take 3 rfl (by kernel_rfl) rfl hs (Y_cmpT rfl rfl rfl (by simp only [cmpP]; omega) ?_)
        refine A_take 4 rfl (by kernel_rfl) rfl hs (Y_move rfl ?_)
        refine A_take 5 rfl (by kernel_rfl) rfl hs (Y_ldW 0 Tryz.isAgg27 Tryz.sizeOf27 rfl rfl (by first | omega | (simp; omega) | simp) ?_)
        refine A_take 6 rfl (by kernel_rfl) rfl hs (Y_move rfl ?_)
        refine A_take 7 rfl (by kernel_rfl) rfl hs (Y_move rfl ?_)
        refine A_take 8 rfl (by kernel_rfl) rfl hs (Y_idxB hb i Tryz.underlying22 Tryz.sizeOf5 rfl rfl rfl (by omega) fun p51 hp51 => ?_)
        refine A_take 9 rfl (by kernel_rfl) rfl hs (Y_ldG Tryz.isAgg5 rfl (hp51) ?_)
        have hle := hs.le
        refine A_only 10 rfl (by kernel_rfl) rfl (S_call (H1 := []) hs rfl Tryz.func24 rfl (by kernel_rfl) (member_ok (x := (b[i]'(by omega))) hc) fun v4 G' H' _ hR hG53 hs => ?_)
        obtain ⟨rfl, rfl⟩ := hR
        replace hs : St _ _ [_] _ := hs
        replace hb := hb.mono hG53
        replace ht := ht.mono hG53
        rw [hpre _ (pre_mem hsp hip (by omega))]
        refine A_moreS hs hle hG53 (List.Sublist.refl _) ?_
        refine A_take 11 rfl (by kernel_rfl) rfl hs (Y_not rfl ?_)
        refine A_take 12 rfl (by kernel_rfl) rfl hs (Y_pickT rfl rfl ?_)
        refine A_done (by kernel_rfl) (T_sub [(1, _), (2, _), (3, _), (7, _), (55, _)] ⟨rfl, rfl, rfl, rfl, rfl, trivial⟩ ?_)
        refine T_condF rfl (T_skip ?_)
        refine T_region rfl ?_
        refine O_y hs (Y_move rfl ?_)
        refine O_y hs (Y_add (c := ((i + 1 : Nat) : Int)) rfl rfl (by omega) (by omega) ?_)
        refine O_y hs (Y_assign rfl ?_)
        refine O_nil ⟨_, ?_, [(1, _), (2, _), (3, _), (7, _)], ⟨rfl, rfl, rfl, rfl, trivial⟩, ⟨i + 1, _, by omega, rfl, rfl, hs⟩⟩
        omega

end Go.Proofs.YtffbfibpfnlfeaaGreatDoor
