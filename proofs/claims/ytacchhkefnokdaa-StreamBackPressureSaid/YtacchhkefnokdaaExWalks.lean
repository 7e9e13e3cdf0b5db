import Derived.Test.YtacchhkefnokdaaModel
import Derived.Test.YtacchhkefnokdaaShelf
import Derived.Sort.OwnSortedInts
import Derived.Test.YtacchhkefnokdaaProg
namespace Go.Proofs.Ytacchhkefnokdaa
open Go Go.Ex Go.RowKit Go.Sort
theorem FO26_0 : fieldOff Try.prog 26 0 = some 0 := by kernel_rfl
theorem FO26_1 : fieldOff Try.prog 26 1 = some 1 := by kernel_rfl
theorem FO26_2 : fieldOff Try.prog 26 2 = some 2 := by kernel_rfl
theorem FO28_0 : fieldOff Try.prog 28 0 = some 0 := by kernel_rfl
theorem FO28_1 : fieldOff Try.prog 28 1 = some 1 := by kernel_rfl
theorem FO28_2 : fieldOff Try.prog 28 2 = some 2 := by kernel_rfl
theorem PL28 : places Try.prog 28 = some [(0, 1), (1, 1), (2, 1)] := by kernel_rfl
theorem TI23 : TI Try.prog 23 (.slice none 0 0) 1 24 := TI.of (by kernel_rfl)
theorem TI3 : TI Try.prog 3 (.int .i64 0) 1 8 := TI.of (by kernel_rfl)
theorem TI5 : TI Try.prog 5 (.int .u8 0) 1 1 := TI.of (by kernel_rfl)

set_option maxHeartbeats 400000 in
set_option maxRecDepth 10000 in
theorem valid_ok {v : Value} {G : Ghost} {d : Dec} (hd : DecR G v d) :
    FnOk Try.prog 29 [v] G [] fun r _ H' => H' = [] ∧ r = .bool (validB d) := by
  obtain ⟨u, rfl, hu⟩ := hd
  obtain ⟨A, cap, rfl, hu'⟩ := id hu
  refine FnOk.of_T [(0, _)] Try.func29 rfl Try.ntmps29 (by simp) rfl fun w0 hs => ?_
  refine T_seq (T_region rfl ?_)
  refine O_s (S_box hs rfl (cs := [_, _, _]) rfl fun b1 _ hs => ?_)
  refine O_y hs (Y_assign rfl ?_)
  refine O_nil (T_sub [(1, _)] ⟨rfl, trivial⟩ ?_)
  refine T_seq (T_region rfl ?_)
  refine O_y hs (Y_fieldAddr FO28_0 rfl (m := 0) rfl ?_)
  refine O_y hs (Y_ld 0 Try.isAgg23 rfl rfl rfl ?_)
  refine O_y hs (Y_len Try.underlying23 rfl ?_)
  refine O_y hs (Y_cmpS rfl rfl rfl (fun h6 => ?_) (fun h6 => ?_))
  · -- h6: True
    dsimp only [cmpP] at h6
    refine O_y hs (Y_move rfl ?_)
    refine O_yy 7 hs rfl rfl (Y_fieldAddr FO28_1 rfl (m := 1) rfl ?_)
    refine O_yy 7 hs rfl rfl (Y_ld 0 Try.isAgg3 rfl rfl rfl ?_)
    refine O_yy 7 hs rfl rfl (Y_cmpS rfl rfl rfl (fun h10 => ?_) (fun h10 => ?_))
    · -- h10: True
      dsimp only [cmpP] at h10
      refine O_y hs (Y_pickT rfl rfl ?_)
      refine O_y hs (Y_move rfl ?_)
      refine O_yy 12 hs rfl rfl (Y_fieldAddr FO28_1 rfl (m := 1) rfl ?_)
      refine O_yy 12 hs rfl rfl (Y_ld 0 Try.isAgg3 rfl rfl rfl ?_)
      refine O_yy 12 hs rfl rfl (Y_cmpS rfl rfl rfl (fun h15 => ?_) (fun h15 => ?_))
      · -- h15: True
        dsimp only [cmpP] at h15
        refine O_y hs (Y_pickT rfl rfl ?_)
        refine O_y hs (Y_assign rfl ?_)
        refine O_nil (T_sub [(2, _)] ⟨rfl, trivial⟩ ?_)
        refine T_ret ?_
        refine Rt_fin (vs := [_]) Try.results29 rfl ⟨rfl, trivial⟩ ?_
        try dsimp only [tup]
        exact ⟨_, [], hs.done, rfl, congrArg Value.bool (by rw [eq_comm]; first | exact validB_iff.2 (by omega) | exact validB_neg (by omega))⟩
      · -- h15: False
        dsimp only [cmpP] at h15
        refine O_y hs (Y_pickT rfl rfl ?_)
        refine O_y hs (Y_assign rfl ?_)
        refine O_nil (T_sub [(2, _)] ⟨rfl, trivial⟩ ?_)
        refine T_ret ?_
        refine Rt_fin (vs := [_]) Try.results29 rfl ⟨rfl, trivial⟩ ?_
        try dsimp only [tup]
        exact ⟨_, [], hs.done, rfl, congrArg Value.bool (by rw [eq_comm]; first | exact validB_iff.2 (by omega) | exact validB_neg (by omega))⟩
    · -- h10: False
      dsimp only [cmpP] at h10
      refine O_y hs (Y_pickT rfl rfl ?_)
      refine O_y hs (Y_move rfl ?_)
      refine O_no 12 rfl rfl ?_
      refine O_no 12 rfl rfl ?_
      refine O_no 12 rfl rfl ?_
      refine O_y hs (Y_pickF rfl rfl ?_)
      refine O_y hs (Y_assign rfl ?_)
      refine O_nil (T_sub [(2, _)] ⟨rfl, trivial⟩ ?_)
      refine T_ret ?_
      refine Rt_fin (vs := [_]) Try.results29 rfl ⟨rfl, trivial⟩ ?_
      try dsimp only [tup]
      exact ⟨_, [], hs.done, rfl, congrArg Value.bool (by rw [eq_comm]; first | exact validB_iff.2 (by omega) | exact validB_neg (by omega))⟩
  · -- h6: False
    dsimp only [cmpP] at h6
    refine O_y hs (Y_move rfl ?_)
    refine O_no 7 rfl rfl ?_
    refine O_no 7 rfl rfl ?_
    refine O_no 7 rfl rfl ?_
    refine O_y hs (Y_pickF rfl rfl ?_)
    refine O_y hs (Y_move rfl ?_)
    refine O_no 12 rfl rfl ?_
    refine O_no 12 rfl rfl ?_
    refine O_no 12 rfl rfl ?_
    refine O_y hs (Y_pickF rfl rfl ?_)
    refine O_y hs (Y_assign rfl ?_)
    refine O_nil (T_sub [(2, _)] ⟨rfl, trivial⟩ ?_)
    refine T_ret ?_
    refine Rt_fin (vs := [_]) Try.results29 rfl ⟨rfl, trivial⟩ ?_
    try dsimp only [tup]
    exact ⟨_, [], hs.done, rfl, congrArg Value.bool (by rw [eq_comm]; first | exact validB_iff.2 (by omega) | exact validB_neg (by omega))⟩

set_option maxHeartbeats 400000 in
set_option maxRecDepth 10000 in
theorem validR_ok {v : Value} {G : Ghost} {d : Dec} (hd : DecR G v d) :
    FnOk Try.prog 33 [v] G [] fun r _ H' => H' = [] ∧ r = .bool (validB d) := by
  obtain ⟨u, rfl, hu⟩ := hd
  obtain ⟨A, cap, rfl, hu'⟩ := id hu
  refine FnOk.of_T [(0, _)] Try.func33 rfl Try.ntmps33 (by simp) rfl fun w0 hs => ?_
  refine T_seq (T_region rfl ?_)
  refine O_s (S_box hs rfl (cs := [_, _, _]) rfl fun b1 _ hs => ?_)
  refine O_y hs (Y_assign rfl ?_)
  refine O_nil (T_sub [(1, _)] ⟨rfl, trivial⟩ ?_)
  refine T_seq (T_region rfl ?_)
  refine O_y hs (Y_fieldAddr FO28_0 rfl (m := 0) rfl ?_)
  refine O_y hs (Y_ld 0 Try.isAgg23 rfl rfl rfl ?_)
  refine O_y hs (Y_len Try.underlying23 rfl ?_)
  refine O_y hs (Y_cmpS rfl rfl rfl (fun h6 => ?_) (fun h6 => ?_))
  · -- h6: True
    dsimp only [cmpP] at h6
    refine O_y hs (Y_move rfl ?_)
    refine O_yy 7 hs rfl rfl (Y_fieldAddr FO28_1 rfl (m := 1) rfl ?_)
    refine O_yy 7 hs rfl rfl (Y_ld 0 Try.isAgg3 rfl rfl rfl ?_)
    refine O_yy 7 hs rfl rfl (Y_cmpS rfl rfl rfl (fun h10 => ?_) (fun h10 => ?_))
    · -- h10: True
      dsimp only [cmpP] at h10
      refine O_y hs (Y_pickT rfl rfl ?_)
      refine O_y hs (Y_move rfl ?_)
      refine O_yy 12 hs rfl rfl (Y_fieldAddr FO28_1 rfl (m := 1) rfl ?_)
      refine O_yy 12 hs rfl rfl (Y_ld 0 Try.isAgg3 rfl rfl rfl ?_)
      refine O_yy 12 hs rfl rfl (Y_cmpS rfl rfl rfl (fun h15 => ?_) (fun h15 => ?_))
      · -- h15: True
        dsimp only [cmpP] at h15
        refine O_y hs (Y_pickT rfl rfl ?_)
        refine O_y hs (Y_assign rfl ?_)
        refine O_nil (T_sub [(2, _)] ⟨rfl, trivial⟩ ?_)
        refine T_ret ?_
        refine Rt_fin (vs := [_]) Try.results33 rfl ⟨rfl, trivial⟩ ?_
        try dsimp only [tup]
        exact ⟨_, [], hs.done, rfl, congrArg Value.bool (by rw [eq_comm]; first | exact validB_iff.2 (by omega) | exact validB_neg (by omega))⟩
      · -- h15: False
        dsimp only [cmpP] at h15
        refine O_y hs (Y_pickT rfl rfl ?_)
        refine O_y hs (Y_assign rfl ?_)
        refine O_nil (T_sub [(2, _)] ⟨rfl, trivial⟩ ?_)
        refine T_ret ?_
        refine Rt_fin (vs := [_]) Try.results33 rfl ⟨rfl, trivial⟩ ?_
        try dsimp only [tup]
        exact ⟨_, [], hs.done, rfl, congrArg Value.bool (by rw [eq_comm]; first | exact validB_iff.2 (by omega) | exact validB_neg (by omega))⟩
    · -- h10: False
      dsimp only [cmpP] at h10
      refine O_y hs (Y_pickT rfl rfl ?_)
      refine O_y hs (Y_move rfl ?_)
      refine O_no 12 rfl rfl ?_
      refine O_no 12 rfl rfl ?_
      refine O_no 12 rfl rfl ?_
      refine O_y hs (Y_pickF rfl rfl ?_)
      refine O_y hs (Y_assign rfl ?_)
      refine O_nil (T_sub [(2, _)] ⟨rfl, trivial⟩ ?_)
      refine T_ret ?_
      refine Rt_fin (vs := [_]) Try.results33 rfl ⟨rfl, trivial⟩ ?_
      try dsimp only [tup]
      exact ⟨_, [], hs.done, rfl, congrArg Value.bool (by rw [eq_comm]; first | exact validB_iff.2 (by omega) | exact validB_neg (by omega))⟩
  · -- h6: False
    dsimp only [cmpP] at h6
    refine O_y hs (Y_move rfl ?_)
    refine O_no 7 rfl rfl ?_
    refine O_no 7 rfl rfl ?_
    refine O_no 7 rfl rfl ?_
    refine O_y hs (Y_pickF rfl rfl ?_)
    refine O_y hs (Y_move rfl ?_)
    refine O_no 12 rfl rfl ?_
    refine O_no 12 rfl rfl ?_
    refine O_no 12 rfl rfl ?_
    refine O_y hs (Y_pickF rfl rfl ?_)
    refine O_y hs (Y_assign rfl ?_)
    refine O_nil (T_sub [(2, _)] ⟨rfl, trivial⟩ ?_)
    refine T_ret ?_
    refine Rt_fin (vs := [_]) Try.results33 rfl ⟨rfl, trivial⟩ ?_
    try dsimp only [tup]
    exact ⟨_, [], hs.done, rfl, congrArg Value.bool (by rw [eq_comm]; first | exact validB_iff.2 (by omega) | exact validB_neg (by omega))⟩

set_option maxHeartbeats 400000 in
set_option maxRecDepth 10000 in
theorem clone_ok {v : Value} {G : Ghost} {bs : List UInt8} (hb : Bytes G v bs) (hl : bs.length ≤ 1000000) :
    FnOk Try.prog 30 [v] G [] fun r G' H' => H' = [] ∧ Bytes G' r bs := by
  obtain ⟨A, cap, rfl, hb'⟩ := id hb
  refine FnOk.of_T [(0, _)] Try.func30 rfl Try.ntmps30 (by simp) rfl fun w0 hs => ?_
  have hb0 := hb
  refine T_seq (T_region rfl ?_)
  refine O_y hs (Y_assign rfl ?_)
  refine O_nil (T_sub [(0, _)] ⟨rfl, trivial⟩ ?_)
  refine T_seq (T_seq (T_region rfl ?_))
  refine O_y hs (Y_move rfl ?_)
  refine O_y hs (Y_nilS Try.underlying23 rfl rfl (fun h4 => ?_) (fun h4 => ?_))
  · -- h4: True
    refine O_nil (T_sub [(0, _), (4, _)] ⟨rfl, rfl, trivial⟩ ?_)
    refine T_condT rfl (T_seq (T_region rfl ?_))
    refine O_y hs (Y_assign rfl ?_)
    refine O_nil (T_sub [(2, _)] ⟨rfl, trivial⟩ ?_)
    refine T_ret ?_
    refine Rt_fin (vs := [_]) Try.results30 rfl ⟨rfl, trivial⟩ ?_
    try dsimp only [tup]
    have hn : bs = [] := Bytes.nil_of (h4 ▸ hb)
    exact ⟨_, [], hs.done, rfl, by subst hn; exact Sl.nil _ _⟩
  · -- h4: False
    refine O_nil (T_sub [(0, _), (4, _)] ⟨rfl, rfl, trivial⟩ ?_)
    refine T_condF rfl (T_skip ?_)
    refine T_seq (T_region rfl ?_)
    refine O_s (S_lit hs Try.underlying23 Try.sizeOf5 Try.zeroValue5 rfl rfl (by decide) (by decide) rfl (cs := []) rfl rfl fun v1 _ hs _ => ?_)
    refine O_y hs (Y_move rfl ?_)
    refine O_s (S_append hs Try.underlying23 TI5 rfl (by decide) rfl rfl (hb) (byteV_one) (by omega) (by omega) fun v2 _ hs => ?_)
    refine O_y hs (Y_assign rfl ?_)
    refine O_nil (T_sub [(2, _)] ⟨rfl, trivial⟩ ?_)
    refine T_ret ?_
    refine Rt_fin (vs := [_]) Try.results30 rfl ⟨rfl, trivial⟩ ?_
    try dsimp only [tup]
    obtain ⟨G', hG, hf, hs3⟩ := hs.fixRow noM
    exact ⟨G', [], hs3, rfl, by simpa [Bytes] using hf⟩

set_option maxHeartbeats 400000 in
set_option maxRecDepth 10000 in
theorem new_ok {G : Ghost} {n : Int} :
    FnOk Try.prog 15 [.int .i64 n] G [] fun r G' H' => H' = [] ∧ ∃ dv, r = .tuple #[dv, .int .i64 (newF n).2] ∧ DecR G' dv (newF n).1 := by
  refine FnOk.of_T [(0, _)] Try.func15 rfl Try.ntmps15 (by simp) rfl fun w0 hs => ?_
  refine T_seq (T_region rfl ?_)
  refine O_s (S_alloc hs Try.zeroValue28 (cs := [_, _, _]) rfl fun b2 _ hs => ?_)
  refine O_y hs (Y_assign rfl ?_)
  refine O_nil (T_sub [(0, _), (2, _)] ⟨rfl, rfl, trivial⟩ ?_)
  refine T_seq (T_seq (T_region rfl ?_))
  refine O_y hs (Y_move rfl ?_)
  refine O_y hs (Y_cmpS rfl rfl rfl (fun h5 => ?_) (fun h5 => ?_))
  · -- h5: True
    dsimp only [cmpP] at h5
    refine O_y hs (Y_move rfl ?_)
    refine O_no 6 rfl rfl ?_
    refine O_no 6 rfl rfl ?_
    refine O_y hs (Y_pickT rfl rfl ?_)
    refine O_nil (T_sub [(0, _), (2, _), (9, _)] ⟨rfl, rfl, rfl, trivial⟩ ?_)
    refine T_condT rfl (T_seq (T_region rfl ?_))
    refine O_y hs (Y_build Try.zeroValue28 rfl PL28 rfl (cs := [_, _, _]) rfl ?_)
    refine O_n (S_stA hs Try.sizeOf28 rfl rfl (vs := [_, _, _]) rfl rfl (by simp) (cs' := [_, _, _]) rfl fun _ hs => ?_)
    refine O_y hs (Y_assign rfl ?_)
    refine O_nil (T_sub [(2, _), (3, _)] ⟨rfl, rfl, trivial⟩ ?_)
    refine T_ret ?_
    have hr := hs
    refine Rt_fin (vs := [_, _]) Try.results15 rfl ⟨ResOk_blk 0 hr Try.isAgg28 Try.sizeOf28 rfl (cs := [_, _, _]) rfl rfl, rfl, trivial⟩ ?_
    try dsimp only [tup]
    first | rw [newF_t (by omega)] | rw [newF_f (by omega)]
    exact ⟨_, [], hs.done, rfl, _, rfl, _, rfl, Sl.nil _ _⟩
  · -- h5: False
    dsimp only [cmpP] at h5
    refine O_y hs (Y_move rfl ?_)
    refine O_yy 6 hs rfl rfl (Y_move rfl ?_)
    refine O_yy 6 hs rfl rfl (Y_cmpS rfl rfl rfl (fun h8 => ?_) (fun h8 => ?_))
    · -- h8: True
      dsimp only [cmpP] at h8
      refine O_y hs (Y_pickF rfl rfl ?_)
      refine O_nil (T_sub [(0, _), (2, _), (9, _)] ⟨rfl, rfl, rfl, trivial⟩ ?_)
      refine T_condT rfl (T_seq (T_region rfl ?_))
      refine O_y hs (Y_build Try.zeroValue28 rfl PL28 rfl (cs := [_, _, _]) rfl ?_)
      refine O_n (S_stA hs Try.sizeOf28 rfl rfl (vs := [_, _, _]) rfl rfl (by simp) (cs' := [_, _, _]) rfl fun _ hs => ?_)
      refine O_y hs (Y_assign rfl ?_)
      refine O_nil (T_sub [(2, _), (3, _)] ⟨rfl, rfl, trivial⟩ ?_)
      refine T_ret ?_
      have hr := hs
      refine Rt_fin (vs := [_, _]) Try.results15 rfl ⟨ResOk_blk 0 hr Try.isAgg28 Try.sizeOf28 rfl (cs := [_, _, _]) rfl rfl, rfl, trivial⟩ ?_
      try dsimp only [tup]
      first | rw [newF_t (by omega)] | rw [newF_f (by omega)]
      exact ⟨_, [], hs.done, rfl, _, rfl, _, rfl, Sl.nil _ _⟩
    · -- h8: False
      dsimp only [cmpP] at h8
      refine O_y hs (Y_pickF rfl rfl ?_)
      refine O_nil (T_sub [(0, _), (2, _), (9, _)] ⟨rfl, rfl, rfl, trivial⟩ ?_)
      refine T_condF rfl (T_skip ?_)
      refine T_seq (T_region rfl ?_)
      refine O_y hs (Y_move rfl ?_)
      refine O_y hs (Y_build Try.zeroValue28 rfl PL28 rfl (cs := [_, _, _]) rfl ?_)
      refine O_n (S_stA hs Try.sizeOf28 rfl rfl (vs := [_, _, _]) rfl rfl (by simp) (cs' := [_, _, _]) rfl fun _ hs => ?_)
      refine O_y hs (Y_assign rfl ?_)
      refine O_nil (T_sub [(2, _), (3, _)] ⟨rfl, rfl, trivial⟩ ?_)
      refine T_ret ?_
      have hr := hs
      refine Rt_fin (vs := [_, _]) Try.results15 rfl ⟨ResOk_blk 0 hr Try.isAgg28 Try.sizeOf28 rfl (cs := [_, _, _]) rfl rfl, rfl, trivial⟩ ?_
      try dsimp only [tup]
      first | rw [newF_t (by omega)] | rw [newF_f (by omega)]
      exact ⟨_, [], hs.done, rfl, _, rfl, _, rfl, Sl.nil _ _⟩

set_option maxHeartbeats 400000 in
set_option maxRecDepth 10000 in
theorem newR_ok {G : Ghost} {n : Int} :
    FnOk Try.prog 16 [.int .i64 n] G [] fun r G' H' => H' = [] ∧ ∃ dv, r = .tuple #[dv, .int .i64 (newF n).2] ∧ DecR G' dv (newF n).1 := by
  refine FnOk.of_T [(0, _)] Try.func16 rfl Try.ntmps16 (by simp) rfl fun w0 hs => ?_
  refine T_seq (T_region rfl ?_)
  refine O_s (S_alloc hs Try.zeroValue28 (cs := [_, _, _]) rfl fun b2 _ hs => ?_)
  refine O_y hs (Y_assign rfl ?_)
  refine O_nil (T_sub [(0, _), (2, _)] ⟨rfl, rfl, trivial⟩ ?_)
  refine T_seq (T_seq (T_region rfl ?_))
  refine O_y hs (Y_move rfl ?_)
  refine O_y hs (Y_cmpS rfl rfl rfl (fun h5 => ?_) (fun h5 => ?_))
  · -- h5: True
    dsimp only [cmpP] at h5
    refine O_y hs (Y_move rfl ?_)
    refine O_no 6 rfl rfl ?_
    refine O_no 6 rfl rfl ?_
    refine O_y hs (Y_pickT rfl rfl ?_)
    refine O_nil (T_sub [(0, _), (2, _), (9, _)] ⟨rfl, rfl, rfl, trivial⟩ ?_)
    refine T_condT rfl (T_seq (T_region rfl ?_))
    refine O_y hs (Y_build Try.zeroValue28 rfl PL28 rfl (cs := [_, _, _]) rfl ?_)
    refine O_n (S_stA hs Try.sizeOf28 rfl rfl (vs := [_, _, _]) rfl rfl (by simp) (cs' := [_, _, _]) rfl fun _ hs => ?_)
    refine O_y hs (Y_assign rfl ?_)
    refine O_nil (T_sub [(2, _), (3, _)] ⟨rfl, rfl, trivial⟩ ?_)
    refine T_ret ?_
    have hr := hs
    refine Rt_fin (vs := [_, _]) Try.results16 rfl ⟨ResOk_blk 0 hr Try.isAgg28 Try.sizeOf28 rfl (cs := [_, _, _]) rfl rfl, rfl, trivial⟩ ?_
    try dsimp only [tup]
    first | rw [newF_t (by omega)] | rw [newF_f (by omega)]
    exact ⟨_, [], hs.done, rfl, _, rfl, _, rfl, Sl.nil _ _⟩
  · -- h5: False
    dsimp only [cmpP] at h5
    refine O_y hs (Y_move rfl ?_)
    refine O_yy 6 hs rfl rfl (Y_move rfl ?_)
    refine O_yy 6 hs rfl rfl (Y_cmpS rfl rfl rfl (fun h8 => ?_) (fun h8 => ?_))
    · -- h8: True
      dsimp only [cmpP] at h8
      refine O_y hs (Y_pickF rfl rfl ?_)
      refine O_nil (T_sub [(0, _), (2, _), (9, _)] ⟨rfl, rfl, rfl, trivial⟩ ?_)
      refine T_condT rfl (T_seq (T_region rfl ?_))
      refine O_y hs (Y_build Try.zeroValue28 rfl PL28 rfl (cs := [_, _, _]) rfl ?_)
      refine O_n (S_stA hs Try.sizeOf28 rfl rfl (vs := [_, _, _]) rfl rfl (by simp) (cs' := [_, _, _]) rfl fun _ hs => ?_)
      refine O_y hs (Y_assign rfl ?_)
      refine O_nil (T_sub [(2, _), (3, _)] ⟨rfl, rfl, trivial⟩ ?_)
      refine T_ret ?_
      have hr := hs
      refine Rt_fin (vs := [_, _]) Try.results16 rfl ⟨ResOk_blk 0 hr Try.isAgg28 Try.sizeOf28 rfl (cs := [_, _, _]) rfl rfl, rfl, trivial⟩ ?_
      try dsimp only [tup]
      first | rw [newF_t (by omega)] | rw [newF_f (by omega)]
      exact ⟨_, [], hs.done, rfl, _, rfl, _, rfl, Sl.nil _ _⟩
    · -- h8: False
      dsimp only [cmpP] at h8
      refine O_y hs (Y_pickF rfl rfl ?_)
      refine O_nil (T_sub [(0, _), (2, _), (9, _)] ⟨rfl, rfl, rfl, trivial⟩ ?_)
      refine T_condF rfl (T_skip ?_)
      refine T_seq (T_region rfl ?_)
      refine O_y hs (Y_move rfl ?_)
      refine O_y hs (Y_build Try.zeroValue28 rfl PL28 rfl (cs := [_, _, _]) rfl ?_)
      refine O_n (S_stA hs Try.sizeOf28 rfl rfl (vs := [_, _, _]) rfl rfl (by simp) (cs' := [_, _, _]) rfl fun _ hs => ?_)
      refine O_y hs (Y_assign rfl ?_)
      refine O_nil (T_sub [(2, _), (3, _)] ⟨rfl, rfl, trivial⟩ ?_)
      refine T_ret ?_
      have hr := hs
      refine Rt_fin (vs := [_, _]) Try.results16 rfl ⟨ResOk_blk 0 hr Try.isAgg28 Try.sizeOf28 rfl (cs := [_, _, _]) rfl rfl, rfl, trivial⟩ ?_
      try dsimp only [tup]
      first | rw [newF_t (by omega)] | rw [newF_f (by omega)]
      exact ⟨_, [], hs.done, rfl, _, rfl, _, rfl, Sl.nil _ _⟩

set_option maxHeartbeats 400000 in
set_option maxRecDepth 10000 in
theorem grant_ok {v : Value} {G : Ghost} {d : Dec} {n : Int} (hd : DecR G v d) :
    FnOk Try.prog 17 [v, .int .i64 n] G [] fun r G' H' => H' = [] ∧ ∃ dv, r = .tuple #[dv, .int .i64 (grantF d n).2] ∧ DecR G' dv (grantF d n).1 := by
  obtain ⟨u, rfl, hu⟩ := hd
  obtain ⟨A, cap, rfl, hu'⟩ := id hu
  refine FnOk.of_T [(0, _), (1, _)] Try.func17 rfl Try.ntmps17 (by simp) rfl fun w0 hs => ?_
  have hu0 := hu
  refine T_seq (T_region rfl ?_)
  refine O_s (S_box hs rfl (cs := [_, _, _]) rfl fun b2 _ hs => ?_)
  refine O_s (S_alloc hs Try.zeroValue28 (cs := [_, _, _]) rfl fun b4 _ hs => ?_)
  refine O_y hs (Y_assign rfl ?_)
  refine O_nil (T_sub [(1, _), (2, _), (4, _)] ⟨rfl, rfl, rfl, trivial⟩ ?_)
  refine T_seq (T_seq (T_region rfl ?_))
  refine O_y hs (Y_ldA 1 Try.isAgg28 Try.sizeOf28 rfl rfl (vs := [_, _, _]) rfl rfl ?_)
  refine O_s (S_call (H1 := []) hs rfl Try.func29 rfl (by kernel_rfl) (valid_ok (d := d) ⟨_, rfl, hu⟩) fun v1 G' H' _ hR hG7 hs => ?_)
  obtain ⟨rfl, rfl⟩ := hR
  replace hs : St _ _ [_, _] _ := hs
  replace hu := hu.mono hG7
  cases hv : validB d
  · -- hv: False
    refine O_y hs (Y_not rfl ?_)
    refine O_y hs (Y_move rfl ?_)
    refine O_no 9 rfl rfl ?_
    refine O_no 9 rfl rfl ?_
    refine O_y hs (Y_pickT rfl rfl ?_)
    refine O_y hs (Y_move rfl ?_)
    refine O_no 13 rfl rfl ?_
    refine O_no 13 rfl rfl ?_
    refine O_no 13 rfl rfl ?_
    refine O_no 13 rfl rfl ?_
    refine O_no 13 rfl rfl ?_
    refine O_y hs (Y_pickT rfl rfl ?_)
    refine O_nil (T_sub [(1, _), (2, _), (4, _), (19, _)] ⟨rfl, rfl, rfl, rfl, trivial⟩ ?_)
    refine T_condT rfl (T_seq (T_region rfl ?_))
    refine O_y hs (Y_build Try.zeroValue28 rfl PL28 rfl (cs := [_, _, _]) rfl ?_)
    refine O_n (S_stA hs Try.sizeOf28 rfl rfl (vs := [_, _, _]) rfl rfl (by simp) (cs' := [_, _, _]) rfl fun _ hs => ?_)
    refine O_y hs (Y_assign rfl ?_)
    refine O_nil (T_sub [(4, _), (5, _)] ⟨rfl, rfl, trivial⟩ ?_)
    refine T_ret ?_
    have hr := hs
    refine Rt_fin (vs := [_, _]) Try.results17 rfl ⟨ResOk_blk 0 hr Try.isAgg28 Try.sizeOf28 rfl (cs := [_, _, _]) rfl rfl, rfl, trivial⟩ ?_
    try dsimp only [tup]
    rw [grantF_f (by simp [hv])]
    exact ⟨_, [], hs.done, rfl, _, rfl, _, rfl, Sl.nil _ _⟩
  · -- hv: True
    have hv' := validB_iff.1 hv
    refine O_y hs (Y_not rfl ?_)
    refine O_y hs (Y_move rfl ?_)
    refine O_yy 9 hs rfl rfl (Y_move rfl ?_)
    refine O_yy 9 hs rfl rfl (Y_cmpS rfl rfl rfl (fun h11 => ?_) (fun h11 => ?_))
    · -- h11: True
      dsimp only [cmpP] at h11
      refine O_y hs (Y_pickF rfl rfl ?_)
      refine O_y hs (Y_move rfl ?_)
      refine O_no 13 rfl rfl ?_
      refine O_no 13 rfl rfl ?_
      refine O_no 13 rfl rfl ?_
      refine O_no 13 rfl rfl ?_
      refine O_no 13 rfl rfl ?_
      refine O_y hs (Y_pickT rfl rfl ?_)
      refine O_nil (T_sub [(1, _), (2, _), (4, _), (19, _)] ⟨rfl, rfl, rfl, rfl, trivial⟩ ?_)
      refine T_condT rfl (T_seq (T_region rfl ?_))
      refine O_y hs (Y_build Try.zeroValue28 rfl PL28 rfl (cs := [_, _, _]) rfl ?_)
      refine O_n (S_stA hs Try.sizeOf28 rfl rfl (vs := [_, _, _]) rfl rfl (by simp) (cs' := [_, _, _]) rfl fun _ hs => ?_)
      refine O_y hs (Y_assign rfl ?_)
      refine O_nil (T_sub [(4, _), (5, _)] ⟨rfl, rfl, trivial⟩ ?_)
      refine T_ret ?_
      have hr := hs
      refine Rt_fin (vs := [_, _]) Try.results17 rfl ⟨ResOk_blk 0 hr Try.isAgg28 Try.sizeOf28 rfl (cs := [_, _, _]) rfl rfl, rfl, trivial⟩ ?_
      try dsimp only [tup]
      rw [grantF_f (by omega)]
      exact ⟨_, [], hs.done, rfl, _, rfl, _, rfl, Sl.nil _ _⟩
    · -- h11: False
      dsimp only [cmpP] at h11
      refine O_y hs (Y_pickF rfl rfl ?_)
      refine O_y hs (Y_move rfl ?_)
      refine O_yy 13 hs rfl rfl (Y_move rfl ?_)
      refine O_yy 13 hs rfl rfl (Y_fieldAddr FO28_1 rfl (m := 1) rfl ?_)
      refine O_yy 13 hs rfl rfl (Y_ld 1 Try.isAgg3 rfl rfl rfl ?_)
      refine O_yy 13 hs rfl rfl (Y_sub (c := 1073741824 - d.credit) rfl rfl (by omega) (by omega) ?_)
      refine O_yy 13 hs rfl rfl (Y_cmpS rfl rfl rfl (fun h18 => ?_) (fun h18 => ?_))
      · -- h18: True
        dsimp only [cmpP] at h18
        refine O_y hs (Y_pickF rfl rfl ?_)
        refine O_nil (T_sub [(1, _), (2, _), (4, _), (19, _)] ⟨rfl, rfl, rfl, rfl, trivial⟩ ?_)
        refine T_condT rfl (T_seq (T_region rfl ?_))
        refine O_y hs (Y_build Try.zeroValue28 rfl PL28 rfl (cs := [_, _, _]) rfl ?_)
        refine O_n (S_stA hs Try.sizeOf28 rfl rfl (vs := [_, _, _]) rfl rfl (by simp) (cs' := [_, _, _]) rfl fun _ hs => ?_)
        refine O_y hs (Y_assign rfl ?_)
        refine O_nil (T_sub [(4, _), (5, _)] ⟨rfl, rfl, trivial⟩ ?_)
        refine T_ret ?_
        have hr := hs
        refine Rt_fin (vs := [_, _]) Try.results17 rfl ⟨ResOk_blk 0 hr Try.isAgg28 Try.sizeOf28 rfl (cs := [_, _, _]) rfl rfl, rfl, trivial⟩ ?_
        try dsimp only [tup]
        rw [grantF_f (by omega)]
        exact ⟨_, [], hs.done, rfl, _, rfl, _, rfl, Sl.nil _ _⟩
      · -- h18: False
        dsimp only [cmpP] at h18
        refine O_y hs (Y_pickF rfl rfl ?_)
        refine O_nil (T_sub [(1, _), (2, _), (4, _), (19, _)] ⟨rfl, rfl, rfl, rfl, trivial⟩ ?_)
        refine T_condF rfl (T_skip ?_)
        refine T_seq (T_region rfl ?_)
        refine O_y hs (Y_fieldAddr FO28_0 rfl (m := 0) rfl ?_)
        refine O_y hs (Y_ld 1 Try.isAgg23 rfl rfl rfl ?_)
        refine O_s (S_call (H1 := []) hs rfl Try.func30 rfl (by kernel_rfl) (clone_ok hu (by omega)) fun v2 G' H' _ hR hG23 hs => ?_)
        obtain ⟨rfl, hcl⟩ := hR
        obtain ⟨A23, c23, rfl, _⟩ := id hcl
        replace hs : St _ _ [_, _] _ := hs
        replace hu := hu.mono hG23
        refine O_y hs (Y_fieldAddr FO28_0 rfl (m := 0) rfl ?_)
        have hs := hs.front 1 rfl (H' := [_, _]) rfl
        refine O_n (S_st hs Try.sizeOf23 rfl rfl rfl (by simp) (cs' := [_, _, _]) rfl fun _ hs => ?_)
        refine O_nil (T_sub [(1, _), (2, _), (4, _)] ⟨rfl, rfl, rfl, trivial⟩ ?_)
        refine T_seq (T_region rfl ?_)
        refine O_y hs (Y_fieldAddr FO28_1 rfl (m := 1) rfl ?_)
        refine O_y hs (Y_ld 0 Try.isAgg3 rfl rfl rfl ?_)
        refine O_y hs (Y_move rfl ?_)
        refine O_y hs (Y_add (c := d.credit + n) rfl rfl (by omega) (by omega) ?_)
        refine O_y hs (Y_fieldAddr FO28_1 rfl (m := 1) rfl ?_)
        refine O_n (S_st hs Try.sizeOf3 rfl rfl rfl (by simp) (cs' := [_, _, _]) rfl fun _ hs => ?_)
        refine O_nil (T_sub [(2, _), (4, _)] ⟨rfl, rfl, trivial⟩ ?_)
        refine T_seq (T_region rfl ?_)
        refine O_y hs (Y_ldA 0 Try.isAgg28 Try.sizeOf28 rfl rfl (vs := [_, _, _]) rfl rfl ?_)
        have hs := hs.front 1 rfl (H' := [_, _]) rfl
        refine O_n (S_stA hs Try.sizeOf28 rfl rfl (vs := [_, _, _]) rfl rfl (by simp) (cs' := [_, _, _]) rfl fun _ hs => ?_)
        refine O_y hs (Y_assign rfl ?_)
        refine O_nil (T_sub [(4, _), (5, _)] ⟨rfl, rfl, trivial⟩ ?_)
        refine T_ret ?_
        have hr := hs
        refine Rt_fin (vs := [_, _]) Try.results17 rfl ⟨ResOk_blk 0 hr Try.isAgg28 Try.sizeOf28 rfl (cs := [_, _, _]) rfl rfl, rfl, trivial⟩ ?_
        try dsimp only [tup]
        rw [grantF_t ⟨hv, by omega, by omega⟩]
        exact ⟨_, [], hs.done, rfl, _, rfl, _, rfl, hcl⟩

set_option maxHeartbeats 400000 in
set_option maxRecDepth 10000 in
theorem grantR_ok {v : Value} {G : Ghost} {d : Dec} {n : Int} (hd : DecR G v d) :
    FnOk Try.prog 18 [v, .int .i64 n] G [] fun r G' H' => H' = [] ∧ ∃ dv, r = .tuple #[dv, .int .i64 (grantF d n).2] ∧ DecR G' dv (grantF d n).1 := by
  obtain ⟨u, rfl, hu⟩ := hd
  obtain ⟨A, cap, rfl, hu'⟩ := id hu
  refine FnOk.of_T [(0, _), (1, _)] Try.func18 rfl Try.ntmps18 (by simp) rfl fun w0 hs => ?_
  have hu0 := hu
  refine T_seq (T_region rfl ?_)
  refine O_s (S_box hs rfl (cs := [_, _, _]) rfl fun b2 _ hs => ?_)
  refine O_s (S_alloc hs Try.zeroValue28 (cs := [_, _, _]) rfl fun b4 _ hs => ?_)
  refine O_y hs (Y_assign rfl ?_)
  refine O_nil (T_sub [(1, _), (2, _), (4, _)] ⟨rfl, rfl, rfl, trivial⟩ ?_)
  refine T_seq (T_seq (T_region rfl ?_))
  refine O_y hs (Y_ldA 1 Try.isAgg28 Try.sizeOf28 rfl rfl (vs := [_, _, _]) rfl rfl ?_)
  refine O_s (S_call (H1 := []) hs rfl Try.func33 rfl (by kernel_rfl) (validR_ok (d := d) ⟨_, rfl, hu⟩) fun v1 G' H' _ hR hG7 hs => ?_)
  obtain ⟨rfl, rfl⟩ := hR
  replace hs : St _ _ [_, _] _ := hs
  replace hu := hu.mono hG7
  cases hv : validB d
  · -- hv: False
    refine O_y hs (Y_not rfl ?_)
    refine O_y hs (Y_move rfl ?_)
    refine O_no 9 rfl rfl ?_
    refine O_no 9 rfl rfl ?_
    refine O_y hs (Y_pickT rfl rfl ?_)
    refine O_y hs (Y_move rfl ?_)
    refine O_no 13 rfl rfl ?_
    refine O_no 13 rfl rfl ?_
    refine O_no 13 rfl rfl ?_
    refine O_no 13 rfl rfl ?_
    refine O_no 13 rfl rfl ?_
    refine O_y hs (Y_pickT rfl rfl ?_)
    refine O_nil (T_sub [(1, _), (2, _), (4, _), (19, _)] ⟨rfl, rfl, rfl, rfl, trivial⟩ ?_)
    refine T_condT rfl (T_seq (T_region rfl ?_))
    refine O_y hs (Y_build Try.zeroValue28 rfl PL28 rfl (cs := [_, _, _]) rfl ?_)
    refine O_n (S_stA hs Try.sizeOf28 rfl rfl (vs := [_, _, _]) rfl rfl (by simp) (cs' := [_, _, _]) rfl fun _ hs => ?_)
    refine O_y hs (Y_assign rfl ?_)
    refine O_nil (T_sub [(4, _), (5, _)] ⟨rfl, rfl, trivial⟩ ?_)
    refine T_ret ?_
    have hr := hs
    refine Rt_fin (vs := [_, _]) Try.results18 rfl ⟨ResOk_blk 0 hr Try.isAgg28 Try.sizeOf28 rfl (cs := [_, _, _]) rfl rfl, rfl, trivial⟩ ?_
    try dsimp only [tup]
    rw [grantF_f (by simp [hv])]
    exact ⟨_, [], hs.done, rfl, _, rfl, _, rfl, Sl.nil _ _⟩
  · -- hv: True
    have hv' := validB_iff.1 hv
    refine O_y hs (Y_not rfl ?_)
    refine O_y hs (Y_move rfl ?_)
    refine O_yy 9 hs rfl rfl (Y_move rfl ?_)
    refine O_yy 9 hs rfl rfl (Y_cmpS rfl rfl rfl (fun h11 => ?_) (fun h11 => ?_))
    · -- h11: True
      dsimp only [cmpP] at h11
      refine O_y hs (Y_pickF rfl rfl ?_)
      refine O_y hs (Y_move rfl ?_)
      refine O_no 13 rfl rfl ?_
      refine O_no 13 rfl rfl ?_
      refine O_no 13 rfl rfl ?_
      refine O_no 13 rfl rfl ?_
      refine O_no 13 rfl rfl ?_
      refine O_y hs (Y_pickT rfl rfl ?_)
      refine O_nil (T_sub [(1, _), (2, _), (4, _), (19, _)] ⟨rfl, rfl, rfl, rfl, trivial⟩ ?_)
      refine T_condT rfl (T_seq (T_region rfl ?_))
      refine O_y hs (Y_build Try.zeroValue28 rfl PL28 rfl (cs := [_, _, _]) rfl ?_)
      refine O_n (S_stA hs Try.sizeOf28 rfl rfl (vs := [_, _, _]) rfl rfl (by simp) (cs' := [_, _, _]) rfl fun _ hs => ?_)
      refine O_y hs (Y_assign rfl ?_)
      refine O_nil (T_sub [(4, _), (5, _)] ⟨rfl, rfl, trivial⟩ ?_)
      refine T_ret ?_
      have hr := hs
      refine Rt_fin (vs := [_, _]) Try.results18 rfl ⟨ResOk_blk 0 hr Try.isAgg28 Try.sizeOf28 rfl (cs := [_, _, _]) rfl rfl, rfl, trivial⟩ ?_
      try dsimp only [tup]
      rw [grantF_f (by omega)]
      exact ⟨_, [], hs.done, rfl, _, rfl, _, rfl, Sl.nil _ _⟩
    · -- h11: False
      dsimp only [cmpP] at h11
      refine O_y hs (Y_pickF rfl rfl ?_)
      refine O_y hs (Y_move rfl ?_)
      refine O_yy 13 hs rfl rfl (Y_move rfl ?_)
      refine O_yy 13 hs rfl rfl (Y_fieldAddr FO28_1 rfl (m := 1) rfl ?_)
      refine O_yy 13 hs rfl rfl (Y_ld 1 Try.isAgg3 rfl rfl rfl ?_)
      refine O_yy 13 hs rfl rfl (Y_sub (c := 1073741824 - d.credit) rfl rfl (by omega) (by omega) ?_)
      refine O_yy 13 hs rfl rfl (Y_cmpS rfl rfl rfl (fun h18 => ?_) (fun h18 => ?_))
      · -- h18: True
        dsimp only [cmpP] at h18
        refine O_y hs (Y_pickF rfl rfl ?_)
        refine O_nil (T_sub [(1, _), (2, _), (4, _), (19, _)] ⟨rfl, rfl, rfl, rfl, trivial⟩ ?_)
        refine T_condT rfl (T_seq (T_region rfl ?_))
        refine O_y hs (Y_build Try.zeroValue28 rfl PL28 rfl (cs := [_, _, _]) rfl ?_)
        refine O_n (S_stA hs Try.sizeOf28 rfl rfl (vs := [_, _, _]) rfl rfl (by simp) (cs' := [_, _, _]) rfl fun _ hs => ?_)
        refine O_y hs (Y_assign rfl ?_)
        refine O_nil (T_sub [(4, _), (5, _)] ⟨rfl, rfl, trivial⟩ ?_)
        refine T_ret ?_
        have hr := hs
        refine Rt_fin (vs := [_, _]) Try.results18 rfl ⟨ResOk_blk 0 hr Try.isAgg28 Try.sizeOf28 rfl (cs := [_, _, _]) rfl rfl, rfl, trivial⟩ ?_
        try dsimp only [tup]
        rw [grantF_f (by omega)]
        exact ⟨_, [], hs.done, rfl, _, rfl, _, rfl, Sl.nil _ _⟩
      · -- h18: False
        dsimp only [cmpP] at h18
        refine O_y hs (Y_pickF rfl rfl ?_)
        refine O_nil (T_sub [(1, _), (2, _), (4, _), (19, _)] ⟨rfl, rfl, rfl, rfl, trivial⟩ ?_)
        refine T_condF rfl (T_skip ?_)
        refine T_seq (T_region rfl ?_)
        refine O_y hs (Y_fieldAddr FO28_1 rfl (m := 1) rfl ?_)
        refine O_y hs (Y_ld 1 Try.isAgg3 rfl rfl rfl ?_)
        refine O_y hs (Y_move rfl ?_)
        refine O_y hs (Y_add (c := d.credit + n) rfl rfl (by omega) (by omega) ?_)
        refine O_y hs (Y_fieldAddr FO28_1 rfl (m := 1) rfl ?_)
        have hs := hs.front 1 rfl (H' := [_, _]) rfl
        refine O_n (S_st hs Try.sizeOf3 rfl rfl rfl (by simp) (cs' := [_, _, _]) rfl fun _ hs => ?_)
        refine O_nil (T_sub [(2, _), (4, _)] ⟨rfl, rfl, trivial⟩ ?_)
        refine T_seq (T_region rfl ?_)
        refine O_y hs (Y_ldA 0 Try.isAgg28 Try.sizeOf28 rfl rfl (vs := [_, _, _]) rfl rfl ?_)
        have hs := hs.front 1 rfl (H' := [_, _]) rfl
        refine O_n (S_stA hs Try.sizeOf28 rfl rfl (vs := [_, _, _]) rfl rfl (by simp) (cs' := [_, _, _]) rfl fun _ hs => ?_)
        refine O_y hs (Y_assign rfl ?_)
        refine O_nil (T_sub [(4, _), (5, _)] ⟨rfl, rfl, trivial⟩ ?_)
        refine T_ret ?_
        have hr := hs
        refine Rt_fin (vs := [_, _]) Try.results18 rfl ⟨ResOk_blk 0 hr Try.isAgg28 Try.sizeOf28 rfl (cs := [_, _, _]) rfl rfl, rfl, trivial⟩ ?_
        try dsimp only [tup]
        rw [grantF_t ⟨hv, by omega, by omega⟩]
        exact ⟨_, [], hs.done, rfl, _, rfl, _, rfl, hu⟩

set_option maxHeartbeats 400000 in
set_option maxRecDepth 10000 in
theorem frame_ok {v : Value} {G : Ghost} {bs : List UInt8} (hb : Bytes G v bs) (hl : bs.length ≤ 4096) :
    FnOk Try.prog 19 [v] G [] fun r G' H' => H' = [] ∧ ∃ u, r = .tuple #[u, .int .i64 0] ∧ Bytes G' u (frameL bs) := by
  obtain ⟨A, cap, rfl, hb'⟩ := id hb
  refine FnOk.of_T [(0, _)] Try.func19 rfl Try.ntmps19 (by simp) rfl fun w0 hs => ?_
  have hb0 := hb
  refine T_seq (T_region rfl ?_)
  refine O_y hs (Y_assign rfl ?_)
  refine O_y hs (Y_assign rfl ?_)
  refine O_nil (T_sub [(0, _)] ⟨rfl, trivial⟩ ?_)
  refine T_seq (T_seq (T_region rfl ?_))
  refine O_y hs (Y_move rfl ?_)
  refine O_y hs (Y_len Try.underlying23 rfl ?_)
  refine O_y hs (Y_cmpF rfl rfl rfl (by omega) ?_)
  refine O_nil (T_sub [(0, _), (6, _)] ⟨rfl, rfl, trivial⟩ ?_)
  refine T_condF rfl (T_skip ?_)
  refine T_seq (T_region rfl ?_)
  refine O_y hs (Y_move rfl ?_)
  refine O_y hs (Y_len Try.underlying23 rfl ?_)
  refine O_y hs (Y_shr rfl rfl (by omega) (shr8 _) ?_)
  refine O_y hs (Y_conv Try.underlying3 Try.underlying5 rfl (u8wrap _) ?_)
  refine O_y hs (Y_move rfl ?_)
  refine O_y hs (Y_len Try.underlying23 rfl ?_)
  refine O_y hs (Y_conv Try.underlying3 Try.underlying5 rfl (u8wrap _) ?_)
  refine O_s (S_lit hs Try.underlying23 Try.sizeOf5 Try.zeroValue5 rfl rfl (by decide) (by decide) rfl (cs := [_, _]) rfl rfl fun v1 _ hs _ => ?_)
  refine O_y hs (Y_move rfl ?_)
  refine O_s (S_append hs Try.underlying23 TI5 rfl (by decide) rfl rfl (hb) (byteV_one) (by omega) (by omega) fun v2 _ hs => ?_)
  refine O_y hs (Y_assign rfl ?_)
  refine O_y hs (Y_assign rfl ?_)
  refine O_nil (T_sub [(2, _), (3, _)] ⟨rfl, rfl, trivial⟩ ?_)
  refine T_ret ?_
  refine Rt_fin (vs := [_, _]) Try.results19 rfl ⟨rfl, rfl, trivial⟩ ?_
  try dsimp only [tup]
  obtain ⟨G', hG, hf, hs3⟩ := hs.fixRow noM
  exact ⟨G', [], hs3, rfl, _, rfl, by show Sl _ _ _ _ _; rw [frameL_length]; exact hf⟩

set_option maxHeartbeats 400000 in
set_option maxRecDepth 10000 in
theorem frame_big {v : Value} {G : Ghost} {bs : List UInt8} (hb : Bytes G v bs) (hl : 4096 < bs.length) :
    FnOk Try.prog 19 [v] G [] fun r _ H' => H' = [] ∧ r = .tuple #[.slice none 0 0, .int .i64 2] := by
  obtain ⟨A, cap, rfl, hb'⟩ := id hb
  refine FnOk.of_T [(0, _)] Try.func19 rfl Try.ntmps19 (by simp) rfl fun w0 hs => ?_
  have hb0 := hb
  refine T_seq (T_region rfl ?_)
  refine O_y hs (Y_assign rfl ?_)
  refine O_y hs (Y_assign rfl ?_)
  refine O_nil (T_sub [(0, _)] ⟨rfl, trivial⟩ ?_)
  refine T_seq (T_seq (T_region rfl ?_))
  refine O_y hs (Y_move rfl ?_)
  refine O_y hs (Y_len Try.underlying23 rfl ?_)
  refine O_y hs (Y_cmpT rfl rfl rfl (by omega) ?_)
  refine O_nil (T_sub [(0, _), (6, _)] ⟨rfl, rfl, trivial⟩ ?_)
  refine T_condT rfl (T_seq (T_region rfl ?_))
  refine O_y hs (Y_assign rfl ?_)
  refine O_y hs (Y_assign rfl ?_)
  refine O_nil (T_sub [(2, _), (3, _)] ⟨rfl, rfl, trivial⟩ ?_)
  refine T_ret ?_
  refine Rt_fin (vs := [_, _]) Try.results19 rfl ⟨rfl, rfl, trivial⟩ ?_
  try dsimp only [tup]
  exact ⟨_, [], hs.done, rfl, rfl⟩

set_option maxHeartbeats 400000 in
set_option maxRecDepth 10000 in
theorem frameR_ok {v : Value} {G : Ghost} {bs : List UInt8} (hb : Bytes G v bs) (hl : bs.length ≤ 4096) :
    FnOk Try.prog 20 [v] G [] fun r G' H' => H' = [] ∧ ∃ u, r = .tuple #[u, .int .i64 0] ∧ Bytes G' u (frameL bs) := by
  obtain ⟨A, cap, rfl, hb'⟩ := id hb
  refine FnOk.of_T [(0, _)] Try.func20 rfl Try.ntmps20 (by simp) rfl fun w0 hs => ?_
  have hb0 := hb
  refine T_seq (T_region rfl ?_)
  refine O_y hs (Y_assign rfl ?_)
  refine O_y hs (Y_assign rfl ?_)
  refine O_nil (T_sub [(0, _)] ⟨rfl, trivial⟩ ?_)
  refine T_seq (T_seq (T_region rfl ?_))
  refine O_y hs (Y_move rfl ?_)
  refine O_y hs (Y_len Try.underlying23 rfl ?_)
  refine O_y hs (Y_cmpF rfl rfl rfl (by omega) ?_)
  refine O_nil (T_sub [(0, _), (7, _)] ⟨rfl, rfl, trivial⟩ ?_)
  refine T_condF rfl (T_skip ?_)
  refine T_seq (T_region rfl ?_)
  refine O_y hs (Y_move rfl ?_)
  refine O_y hs (Y_len Try.underlying23 rfl ?_)
  refine O_y hs (Y_quo (c := ((bs.length / 256 : Nat) : Int)) rfl rfl ⟨by omega, by omega⟩ (by omega) (by omega) ?_)
  refine O_y hs (Y_conv Try.underlying3 Try.underlying5 rfl (u8wrap _) ?_)
  refine O_y hs (Y_move rfl ?_)
  refine O_y hs (Y_len Try.underlying23 rfl ?_)
  refine O_y hs (Y_rem (c := ((bs.length % 256 : Nat) : Int)) rfl rfl (by omega) (by omega) (by omega) ?_)
  refine O_y hs (Y_conv Try.underlying3 Try.underlying5 rfl (u8wrap _) ?_)
  refine O_s (S_lit hs Try.underlying23 Try.sizeOf5 Try.zeroValue5 rfl rfl (by decide) (by decide) rfl (cs := [_, _]) rfl rfl fun v1 _ hs _ => ?_)
  refine O_y hs (Y_assign rfl ?_)
  refine O_nil (T_sub [(0, _), (4, _)] ⟨rfl, rfl, trivial⟩ ?_)
  refine T_seq (T_region rfl ?_)
  refine O_y hs (Y_move rfl ?_)
  refine O_y hs (Y_move rfl ?_)
  refine O_s (S_append hs Try.underlying23 TI5 rfl (by decide) rfl rfl (hb) (byteV_one) (by omega) (by omega) fun v2 _ hs => ?_)
  refine O_y hs (Y_assign rfl ?_)
  refine O_y hs (Y_assign rfl ?_)
  refine O_nil (T_sub [(2, _), (3, _)] ⟨rfl, rfl, trivial⟩ ?_)
  refine T_ret ?_
  refine Rt_fin (vs := [_, _]) Try.results20 rfl ⟨rfl, rfl, trivial⟩ ?_
  try dsimp only [tup]
  obtain ⟨G', hG, hf, hs3⟩ := hs.fixRow noM
  exact ⟨G', [], hs3, rfl, _, rfl, by show Sl _ _ _ _ _; rw [frameL_length, frameL_map']; exact hf⟩

set_option maxHeartbeats 400000 in
set_option maxRecDepth 10000 in
theorem same_ok {v v' : Value} {G : Ghost} {d e : Dec} (hd : DecR G v d) (he : DecR G v' e) :
    FnOk Try.prog 21 [v, v'] G [] fun r _ H' => H' = [] ∧ r = .bool (decide (d = e)) := by
  obtain ⟨u, rfl, hu⟩ := hd
  obtain ⟨A, cap, rfl, hu'⟩ := id hu
  obtain ⟨u2, rfl, hu2⟩ := he
  obtain ⟨A2, c2, rfl, hu2'⟩ := id hu2
  refine FnOk.of_T [(0, _), (1, _)] Try.func21 rfl Try.ntmps21 (by simp) rfl fun w0 hs => ?_
  refine T_seq (T_region rfl ?_)
  refine O_s (S_box hs rfl (cs := [_, _, _]) rfl fun b2 _ hs => ?_)
  refine O_s (S_box hs rfl (cs := [_, _, _]) rfl fun b3 _ hs => ?_)
  refine O_y hs (Y_assign rfl ?_)
  refine O_nil (T_sub [(2, _), (3, _)] ⟨rfl, rfl, trivial⟩ ?_)
  refine T_seq (T_region rfl ?_)
  refine O_y hs (Y_fieldAddr FO28_0 rfl (m := 0) rfl ?_)
  refine O_y hs (Y_ld 1 Try.isAgg23 rfl rfl rfl ?_)
  refine O_y hs (Y_str Try.underlying23 Try.underlying5 Try.underlying9 rfl hu ?_)
  refine O_y hs (Y_fieldAddr FO28_0 rfl (m := 0) rfl ?_)
  refine O_y hs (Y_ld 0 Try.isAgg23 rfl rfl rfl ?_)
  refine O_y hs (Y_str Try.underlying23 Try.underlying5 Try.underlying9 rfl hu2 ?_)
  refine O_y hs (Y_strEqS rfl rfl (fun h11 => ?_) (fun h11 => ?_))
  · -- h11: True
    refine O_y hs (Y_move rfl ?_)
    refine O_yy 12 hs rfl rfl (Y_fieldAddr FO28_1 rfl (m := 1) rfl ?_)
    refine O_yy 12 hs rfl rfl (Y_ld 1 Try.isAgg3 rfl rfl rfl ?_)
    refine O_yy 12 hs rfl rfl (Y_fieldAddr FO28_1 rfl (m := 1) rfl ?_)
    refine O_yy 12 hs rfl rfl (Y_ld 0 Try.isAgg3 rfl rfl rfl ?_)
    refine O_yy 12 hs rfl rfl (Y_cmpS rfl rfl rfl (fun h17 => ?_) (fun h17 => ?_))
    · -- h17: True
      dsimp only [cmpP] at h17
      refine O_y hs (Y_pickT rfl rfl ?_)
      refine O_y hs (Y_move rfl ?_)
      refine O_yy 19 hs rfl rfl (Y_fieldAddr FO28_2 rfl (m := 2) rfl ?_)
      refine O_yy 19 hs rfl rfl (Y_ld 1 Try.isAgg4 rfl rfl rfl ?_)
      refine O_yy 19 hs rfl rfl (Y_fieldAddr FO28_2 rfl (m := 2) rfl ?_)
      refine O_yy 19 hs rfl rfl (Y_ld 0 Try.isAgg4 rfl rfl rfl ?_)
      refine O_yy 19 hs rfl rfl (Y_boolEqS Try.underlying4 rfl rfl (fun h24 => ?_) (fun h24 => ?_))
      · -- h24: True
        refine O_y hs (Y_pickT rfl rfl ?_)
        refine O_y hs (Y_assign rfl ?_)
        refine O_nil (T_sub [(4, _)] ⟨rfl, trivial⟩ ?_)
        refine T_ret ?_
        refine Rt_fin (vs := [_]) Try.results21 rfl ⟨rfl, trivial⟩ ?_
        try dsimp only [tup]
        refine ⟨_, [], hs.done, rfl, congrArg Value.bool ?_⟩
        rw [eq_comm]
        first | (rw [decide_eq_true_eq, Dec.iff_]; exact ⟨h11, h17, h24⟩) | (rw [decide_eq_false_iff_not, Dec.iff_]; intro h; first | exact h11 h.1 | exact h17 h.2.1 | exact h24 h.2.2)
      · -- h24: False
        refine O_y hs (Y_pickT rfl rfl ?_)
        refine O_y hs (Y_assign rfl ?_)
        refine O_nil (T_sub [(4, _)] ⟨rfl, trivial⟩ ?_)
        refine T_ret ?_
        refine Rt_fin (vs := [_]) Try.results21 rfl ⟨rfl, trivial⟩ ?_
        try dsimp only [tup]
        refine ⟨_, [], hs.done, rfl, congrArg Value.bool ?_⟩
        rw [eq_comm]
        first | (rw [decide_eq_true_eq, Dec.iff_]; exact ⟨h11, h17, h24⟩) | (rw [decide_eq_false_iff_not, Dec.iff_]; intro h; first | exact h11 h.1 | exact h17 h.2.1 | exact h24 h.2.2)
    · -- h17: False
      dsimp only [cmpP] at h17
      refine O_y hs (Y_pickT rfl rfl ?_)
      refine O_y hs (Y_move rfl ?_)
      refine O_no 19 rfl rfl ?_
      refine O_no 19 rfl rfl ?_
      refine O_no 19 rfl rfl ?_
      refine O_no 19 rfl rfl ?_
      refine O_no 19 rfl rfl ?_
      refine O_y hs (Y_pickF rfl rfl ?_)
      refine O_y hs (Y_assign rfl ?_)
      refine O_nil (T_sub [(4, _)] ⟨rfl, trivial⟩ ?_)
      refine T_ret ?_
      refine Rt_fin (vs := [_]) Try.results21 rfl ⟨rfl, trivial⟩ ?_
      try dsimp only [tup]
      refine ⟨_, [], hs.done, rfl, congrArg Value.bool ?_⟩
      rw [eq_comm]
      first | (rw [decide_eq_true_eq, Dec.iff_]; exact ⟨h11, h17, h24⟩) | (rw [decide_eq_false_iff_not, Dec.iff_]; intro h; first | exact h11 h.1 | exact h17 h.2.1 | exact h24 h.2.2)
  · -- h11: False
    refine O_y hs (Y_move rfl ?_)
    refine O_no 12 rfl rfl ?_
    refine O_no 12 rfl rfl ?_
    refine O_no 12 rfl rfl ?_
    refine O_no 12 rfl rfl ?_
    refine O_no 12 rfl rfl ?_
    refine O_y hs (Y_pickF rfl rfl ?_)
    refine O_y hs (Y_move rfl ?_)
    refine O_no 19 rfl rfl ?_
    refine O_no 19 rfl rfl ?_
    refine O_no 19 rfl rfl ?_
    refine O_no 19 rfl rfl ?_
    refine O_no 19 rfl rfl ?_
    refine O_y hs (Y_pickF rfl rfl ?_)
    refine O_y hs (Y_assign rfl ?_)
    refine O_nil (T_sub [(4, _)] ⟨rfl, trivial⟩ ?_)
    refine T_ret ?_
    refine Rt_fin (vs := [_]) Try.results21 rfl ⟨rfl, trivial⟩ ?_
    try dsimp only [tup]
    refine ⟨_, [], hs.done, rfl, congrArg Value.bool ?_⟩
    rw [eq_comm]
    first | (rw [decide_eq_true_eq, Dec.iff_]; exact ⟨h11, h17, h24⟩) | (rw [decide_eq_false_iff_not, Dec.iff_]; intro h; first | exact h11 h.1 | exact h17 h.2.1 | exact h24 h.2.2)

set_option maxHeartbeats 400000 in
set_option maxRecDepth 10000 in
theorem sameBytes_ok {v v' : Value} {G : Ghost} {a b : List (List UInt8)} (ha : LBytes G v a) (hb : LBytes G v' b) (hl : a.length ≤ 1000000) :
    FnOk Try.prog 22 [v, v'] G [] fun r _ H' => H' = [] ∧ r = .bool (decide (a = b)) := by
  obtain ⟨va, ha1, ha2⟩ := id ha
  obtain ⟨A1, c1, rfl, ha3⟩ := id ha1
  obtain ⟨vb, hb1, hb2⟩ := id hb
  obtain ⟨A2, c2, rfl, hb3⟩ := id hb1
  refine FnOk.of_T [(0, _), (1, _)] Try.func22 rfl Try.ntmps22 (by simp) rfl fun w0 hs => ?_
  refine T_seq (T_region rfl ?_)
  refine O_y hs (Y_assign rfl ?_)
  refine O_nil (T_sub [(0, _), (1, _)] ⟨rfl, rfl, trivial⟩ ?_)
  refine T_seq (T_seq (T_region rfl ?_))
  refine O_y hs (Y_move rfl ?_)
  refine O_y hs (Y_len Try.underlying22 rfl ?_)
  refine O_y hs (Y_move rfl ?_)
  refine O_y hs (Y_len Try.underlying22 rfl ?_)
  refine O_y hs (Y_cmpS rfl rfl rfl (fun h10 => ?_) (fun h10 => ?_))
  · -- h10: True
    dsimp only [cmpP] at h10
    refine O_nil (T_sub [(0, _), (1, _), (10, _)] ⟨rfl, rfl, rfl, trivial⟩ ?_)
    refine T_condT rfl (T_seq (T_region rfl ?_))
    refine O_y hs (Y_assign rfl ?_)
    refine O_nil (T_sub [(4, _)] ⟨rfl, trivial⟩ ?_)
    refine T_ret ?_
    refine Rt_fin (vs := [_]) Try.results22 rfl ⟨rfl, trivial⟩ ?_
    try dsimp only [tup]
    refine ⟨_, [], hs.done, rfl, congrArg Value.bool ?_⟩
    rw [eq_comm, decide_eq_false_iff_not]; intro h; subst h; omega
  · -- h10: False
    dsimp only [cmpP] at h10
    refine O_nil (T_sub [(0, _), (1, _), (10, _)] ⟨rfl, rfl, rfl, trivial⟩ ?_)
    refine T_condF rfl (T_skip ?_)
    refine T_seq (T_seq (T_region rfl ?_))
    refine O_y hs (Y_assign rfl ?_)
    refine O_nil (T_sub [(0, _), (1, _), (5, _)] ⟨rfl, rfl, rfl, trivial⟩ ?_)
    refine T_block (T_loop (fun m E w => ∃ k : Nat, k ≤ a.length ∧ a.take k = b.take k ∧ m = a.length - k ∧ E = ⟨[], [(0, (.slice A1 a.length c1)), (1, (.slice A2 b.length c2)), (5, .int .i64 (k : Int))]⟩ ∧ St _ _ [] w) (L := [(0, _), (1, _), (5, _)]) ⟨rfl, rfl, rfl, trivial⟩ (⟨0, by omega, rfl, rfl, rfl, hs⟩) fun m E w hI => ?_)
    obtain ⟨k, hk, hab, rfl, rfl, hs⟩ := hI
    refine T_seq (T_seq (T_region rfl ?_))
    refine O_y hs (Y_move rfl ?_)
    refine O_y hs (Y_move rfl ?_)
    refine O_y hs (Y_len Try.underlying22 rfl ?_)
    refine O_y hs (Y_cmpS rfl rfl rfl (fun h14 => ?_) (fun h14 => ?_))
    · -- h14: True
      dsimp only [cmpP] at h14
      refine O_nil (T_sub [(0, _), (1, _), (5, _), (14, _)] ⟨rfl, rfl, rfl, rfl, trivial⟩ ?_)
      refine T_condT rfl (T_skip ?_)
      refine T_seq (T_block (T_seq (T_drawS [0, 1, 2, 3, 4, 5, 6, 7, 8, 9, 10] hs (by kernel_rfl) ?_)))
      replace hs := hs.drew
      refine A_take 0 rfl (by kernel_rfl) rfl hs (Y_move rfl ?_)
      refine A_take 1 rfl (by kernel_rfl) rfl hs (Y_move rfl ?_)
      refine A_take 2 rfl (by kernel_rfl) rfl hs (Y_idxL ha k Try.underlying22 Try.sizeOf23 rfl rfl rfl (by omega) fun p19 u19 hp19 hu19 => ?_)
      obtain ⟨A19, c19, rfl, _⟩ := id hu19
      refine A_take 3 rfl (by kernel_rfl) rfl hs (Y_ldG Try.isAgg23 rfl hp19 ?_)
      refine A_take 4 rfl (by kernel_rfl) rfl hs (Y_str Try.underlying23 Try.underlying5 Try.underlying9 rfl hu19 ?_)
      refine A_take 5 rfl (by kernel_rfl) rfl hs (Y_move rfl ?_)
      refine A_take 6 rfl (by kernel_rfl) rfl hs (Y_move rfl ?_)
      refine A_take 7 rfl (by kernel_rfl) rfl hs (Y_idxL hb k Try.underlying22 Try.sizeOf23 rfl rfl rfl (by omega) fun p24 u24 hp24 hu24 => ?_)
      obtain ⟨A24, c24, rfl, _⟩ := id hu24
      refine A_take 8 rfl (by kernel_rfl) rfl hs (Y_ldG Try.isAgg23 rfl hp24 ?_)
      refine A_take 9 rfl (by kernel_rfl) rfl hs (Y_str Try.underlying23 Try.underlying5 Try.underlying9 rfl hu24 ?_)
      refine A_take 10 rfl (by kernel_rfl) rfl hs (Y_strNeS rfl rfl (fun h27 => ?_) (fun h27 => ?_))
      · -- h27: True
        refine A_done (by kernel_rfl) (T_sub [(0, _), (1, _), (5, _), (27, _)] ⟨rfl, rfl, rfl, rfl, trivial⟩ ?_)
        refine T_condT rfl (T_seq (T_region rfl ?_))
        refine O_y hs (Y_assign rfl ?_)
        refine O_nil (T_sub [(4, _)] ⟨rfl, trivial⟩ ?_)
        refine T_ret ?_
        refine Rt_fin (vs := [_]) Try.results22 rfl ⟨rfl, trivial⟩ ?_
        try dsimp only [tup]
        refine ⟨_, [], hs.done, rfl, congrArg Value.bool ?_⟩
        rw [eq_comm, decide_eq_false_iff_not]; intro h; subst h; exact h27 rfl
      · -- h27: False
        refine A_done (by kernel_rfl) (T_sub [(0, _), (1, _), (5, _), (27, _)] ⟨rfl, rfl, rfl, rfl, trivial⟩ ?_)
        refine T_condF rfl (T_skip ?_)
        refine T_region rfl ?_
        refine O_y hs (Y_move rfl ?_)
        refine O_y hs (Y_add (c := ((k + 1 : Nat) : Int)) rfl rfl (by omega) (by omega) ?_)
        refine O_y hs (Y_assign rfl ?_)
        refine O_nil ⟨_, ?_, [(0, _), (1, _), (5, _)], ⟨rfl, rfl, rfl, trivial⟩, ⟨k + 1, by omega, take_succ_eq (by omega) (by omega) hab h27, rfl, rfl, hs⟩⟩
        omega
    · -- h14: False
      dsimp only [cmpP] at h14
      refine O_nil (T_sub [(0, _), (1, _), (5, _), (14, _)] ⟨rfl, rfl, rfl, rfl, trivial⟩ ?_)
      refine T_condF rfl (T_exit ?_)
      refine T_seq (T_region rfl ?_)
      refine O_y hs (Y_assign rfl ?_)
      refine O_nil (T_sub [(4, _)] ⟨rfl, trivial⟩ ?_)
      refine T_ret ?_
      refine Rt_fin (vs := [_]) Try.results22 rfl ⟨rfl, trivial⟩ ?_
      try dsimp only [tup]
      refine ⟨_, [], hs.done, rfl, congrArg Value.bool ?_⟩
      rw [eq_comm, decide_eq_true_eq]; exact take_all_eq (by omega) (by omega) hab

set_option maxHeartbeats 400000 in
set_option maxRecDepth 10000 in
theorem cuts_ok {v1 v2 v3 : Value} {G : Ghost} {l : List Int} (hl : Ints G v3 l) :
    FnOk Try.prog 24 [.agg #[v1, v2, v3]] G [] fun r G' H' => H' = [] ∧ Ints G' r (l.take 8) := by
  obtain ⟨A, cap, rfl, hl'⟩ := id hl
  refine FnOk.of_T [(0, _)] Try.func24 rfl Try.ntmps24 (by simp) rfl fun w0 hs => ?_
  refine T_seq (T_region rfl ?_)
  refine O_s (S_box hs rfl (cs := [_, _, _]) rfl fun b1 _ hs => ?_)
  refine O_y hs (Y_assign rfl ?_)
  refine O_nil (T_sub [(1, _)] ⟨rfl, trivial⟩ ?_)
  refine T_seq (T_region rfl ?_)
  refine O_y hs (Y_fieldAddr FO26_2 rfl (m := 2) rfl ?_)
  refine O_y hs (Y_ld 0 Try.isAgg24 rfl rfl rfl ?_)
  refine O_y hs (Y_fieldAddr FO26_2 rfl (m := 2) rfl ?_)
  refine O_y hs (Y_ld 0 Try.isAgg24 rfl rfl rfl ?_)
  refine O_y hs (Y_len Try.underlying24 rfl ?_)
  refine O_y hs (Y_min (c := ((min l.length 8 : Nat) : Int)) rfl rfl (by omega) ?_)
  refine O_y hs (Y_sliceI hl 0 (min l.length 8) Try.underlying24 Try.sizeOf3 rfl rfl ⟨_, _, rfl, rfl⟩ (by omega) (by omega) fun s9 hs9 => ?_)
  obtain ⟨A9, c9, rfl, _⟩ := id hs9
  refine O_y hs (Y_assign rfl ?_)
  refine O_nil (T_sub [(2, _)] ⟨rfl, trivial⟩ ?_)
  refine T_ret ?_
  refine Rt_fin (vs := [_]) Try.results24 rfl ⟨rfl, trivial⟩ ?_
  try dsimp only [tup]
  exact ⟨_, [], hs.done, rfl, by simpa [take_min] using hs9⟩

set_option maxHeartbeats 400000 in
set_option maxRecDepth 10000 in
theorem join_ok {v : Value} {G : Ghost} {l : List (List UInt8)} (hl : LBytes G v l) (hn : l.length ≤ 1000000) (hm : l.flatten.length ≤ 1000000) :
    FnOk Try.prog 26 [v] G [] fun r G' H' => H' = [] ∧ Bytes G' r l.flatten := by
  obtain ⟨vl, hl1, hl2⟩ := id hl
  obtain ⟨A, cap, rfl, hl3⟩ := id hl1
  refine FnOk.of_T [(0, _)] Try.func26 rfl Try.ntmps26 (by simp) rfl fun w0 hs => ?_
  refine T_seq (T_region rfl ?_)
  refine O_y hs (Y_assign rfl ?_)
  refine O_nil (T_sub [(0, _)] ⟨rfl, trivial⟩ ?_)
  refine T_seq (T_region rfl ?_)
  refine O_s (S_lit hs Try.underlying23 Try.sizeOf5 Try.zeroValue5 rfl rfl (by decide) (by decide) rfl (cs := []) rfl rfl fun v1 _ hs _ => ?_)
  refine O_y hs (Y_assign rfl ?_)
  refine O_nil (T_sub [(0, _), (3, _)] ⟨rfl, rfl, trivial⟩ ?_)
  refine T_seq (T_seq (T_region rfl ?_))
  refine O_y hs (Y_assign rfl ?_)
  refine O_nil (T_sub [(0, _), (3, _), (4, _)] ⟨rfl, rfl, rfl, trivial⟩ ?_)
  refine T_block (T_loop (fun m E w => ∃ (k : Nat) (v3 : Value), k ≤ l.length ∧ m = l.length - k ∧ E = ⟨[], [(0, (.slice A l.length cap)), (3, v3), (4, .int .i64 (k : Int))]⟩ ∧ St _ _ [.row 5 1 v3 (l.take k).flatten.length ((l.take k).flatten.map byteV)] w) (L := [(0, _), (3, _), (4, _)]) ⟨rfl, rfl, rfl, trivial⟩ (⟨0, _, by omega, rfl, rfl, hs⟩) fun m E w hI => ?_)
  obtain ⟨k, v3, hk, rfl, rfl, hs⟩ := hI
  refine T_seq (T_seq (T_region rfl ?_))
  refine O_y hs (Y_move rfl ?_)
  refine O_y hs (Y_move rfl ?_)
  refine O_y hs (Y_len Try.underlying22 rfl ?_)
  refine O_y hs (Y_cmpS rfl rfl rfl (fun h9 => ?_) (fun h9 => ?_))
  · -- h9: True
    dsimp only [cmpP] at h9
    refine O_nil (T_sub [(0, _), (3, _), (4, _), (9, _)] ⟨rfl, rfl, rfl, rfl, trivial⟩ ?_)
    refine T_condT rfl (T_skip ?_)
    refine T_seq (T_block (T_region rfl ?_))
    refine O_y hs (Y_move rfl ?_)
    refine O_y hs (Y_move rfl ?_)
    refine O_y hs (Y_move rfl ?_)
    refine O_y hs (Y_idxL hl k Try.underlying22 Try.sizeOf23 rfl rfl rfl (by omega) fun p15 u15 hp15 hu15 => ?_)
    obtain ⟨A15, c15, rfl, _⟩ := id hu15
    refine O_y hs (Y_ldG Try.isAgg23 rfl hp15 ?_)
    refine O_s (S_append hs Try.underlying23 TI5 rfl (by decide) rfl rfl (hu15) (byteV_one) (by have := flat_le l k (by omega); omega) (by have := flat_le l k (by omega); omega) fun v2 _ hs => ?_)
    refine O_y hs (Y_assign rfl ?_)
    refine O_nil (T_sub [(0, _), (3, _), (4, _)] ⟨rfl, rfl, rfl, trivial⟩ ?_)
    refine T_region rfl ?_
    refine O_y hs (Y_move rfl ?_)
    refine O_y hs (Y_add (c := ((k + 1 : Nat) : Int)) rfl rfl (by omega) (by omega) ?_)
    refine O_y hs (Y_assign rfl ?_)
    refine O_nil ⟨_, ?_, [(0, _), (3, _), (4, _)], ⟨rfl, rfl, rfl, trivial⟩, ⟨k + 1, _, by omega, rfl, rfl, by rw [flat_succ l k (by omega), List.length_append, List.map_append]; exact hs⟩⟩
    omega
  · -- h9: False
    dsimp only [cmpP] at h9
    refine O_nil (T_sub [(0, _), (3, _), (4, _), (9, _)] ⟨rfl, rfl, rfl, rfl, trivial⟩ ?_)
    refine T_condF rfl (T_exit ?_)
    refine T_seq (T_region rfl ?_)
    refine O_y hs (Y_move rfl ?_)
    refine O_y hs (Y_assign rfl ?_)
    refine O_nil (T_sub [(2, _)] ⟨rfl, trivial⟩ ?_)
    refine T_ret ?_
    refine Rt_fin (vs := [_]) Try.results26 rfl ⟨rfl, trivial⟩ ?_
    try dsimp only [tup]
    obtain rfl : k = l.length := by omega
    rw [List.take_length] at hs
    obtain ⟨G', hG, hf, hs3⟩ := hs.fixRow noM
    exact ⟨G', [], hs3, rfl, hf⟩

set_option maxHeartbeats 400000 in
set_option maxRecDepth 10000 in
theorem few_ok {v : Value} {G : Ghost} {l : List (List UInt8)} (hl : LBytes G v l) :
    FnOk Try.prog 28 [v] G [] fun r G' H' => H' = [] ∧ LBytes G' r (fewF l) := by
  obtain ⟨vl, hl1, hl2⟩ := id hl
  obtain ⟨A, cap, rfl, hl3⟩ := id hl1
  refine FnOk.of_T [(0, _)] Try.func28 rfl Try.ntmps28 (by simp) rfl fun w0 hs => ?_
  have hl0 := hl
  refine T_seq (T_region rfl ?_)
  refine O_y hs (Y_assign rfl ?_)
  refine O_nil (T_sub [(0, _)] ⟨rfl, trivial⟩ ?_)
  refine T_seq (T_region rfl ?_)
  refine O_s (S_lit hs Try.underlying22 Try.sizeOf23 Try.zeroValue23 rfl rfl (by decide) (by decide) rfl (cs := []) rfl rfl fun v1 _ hs _ => ?_)
  refine O_y hs (Y_assign rfl ?_)
  refine O_nil (T_sub [(0, _), (3, _)] ⟨rfl, rfl, trivial⟩ ?_)
  refine T_seq (T_seq (T_region rfl ?_))
  refine O_y hs (Y_assign rfl ?_)
  refine O_nil (T_sub [(0, _), (3, _), (4, _)] ⟨rfl, rfl, rfl, trivial⟩ ?_)
  refine T_block (T_loop (fun m E w => ∃ (k : Nat) (v3 : Value) (vs : List Value) (G' : Ghost), k ≤ l.length ∧ k ≤ 12 ∧ LB G' vs ((l.take k).map (·.take 40)) ∧ m = l.length - k ∧ E = ⟨[], [(0, (.slice A l.length cap)), (3, v3), (4, .int .i64 (k : Int))]⟩ ∧ St ⟨w0, G, feet []⟩ G' [.row 23 1 v3 vs.length vs] w) (L := [(0, _), (3, _), (4, _)]) ⟨rfl, rfl, rfl, trivial⟩ (⟨0, _, [], _, by omega, by omega, LB.nil _, rfl, rfl, hs⟩) fun m E w hI => ?_)
  obtain ⟨k, v3, vs, G', hk, hk', hvs, rfl, rfl, hs⟩ := hI
  have hl := hl0.mono hs.le
  have hvl : vs.length = k := by rw [All2.length hvs]; simp; omega
  refine T_seq (T_seq (T_region rfl ?_))
  refine O_y hs (Y_move rfl ?_)
  refine O_y hs (Y_move rfl ?_)
  refine O_y hs (Y_len Try.underlying22 rfl ?_)
  refine O_y hs (Y_cmpS rfl rfl rfl (fun h9 => ?_) (fun h9 => ?_))
  · -- h9: True
    dsimp only [cmpP] at h9
    refine O_y hs (Y_move rfl ?_)
    refine O_yy 10 hs rfl rfl (Y_move rfl ?_)
    refine O_yy 10 hs rfl rfl (Y_cmpS rfl rfl rfl (fun h12 => ?_) (fun h12 => ?_))
    · -- h12: True
      dsimp only [cmpP] at h12
      refine O_y hs (Y_pickT rfl rfl ?_)
      refine O_nil (T_sub [(0, _), (3, _), (4, _), (13, _)] ⟨rfl, rfl, rfl, rfl, trivial⟩ ?_)
      refine T_condT rfl (T_skip ?_)
      refine T_seq (T_block (T_drawS [0, 1, 2, 3, 4, 5, 6, 7, 8, 9, 10, 11, 12] hs (by kernel_rfl) ?_))
      replace hs := hs.drew
      refine A_take 0 rfl (by kernel_rfl) rfl hs (Y_move rfl ?_)
      refine A_take 1 rfl (by kernel_rfl) rfl hs (Y_move rfl ?_)
      refine A_take 2 rfl (by kernel_rfl) rfl hs (Y_move rfl ?_)
      refine A_take 3 rfl (by kernel_rfl) rfl hs (Y_idxL hl k Try.underlying22 Try.sizeOf23 rfl rfl rfl (by omega) fun p19 u19 hp19 hu19 => ?_)
      obtain ⟨A19, c19, rfl, _⟩ := id hu19
      refine A_take 4 rfl (by kernel_rfl) rfl hs (Y_ldG Try.isAgg23 rfl hp19 ?_)
      refine A_take 5 rfl (by kernel_rfl) rfl hs (Y_move rfl ?_)
      refine A_take 6 rfl (by kernel_rfl) rfl hs (Y_move rfl ?_)
      refine A_take 7 rfl (by kernel_rfl) rfl hs (Y_idxL hl k Try.underlying22 Try.sizeOf23 rfl rfl rfl (by omega) fun p23 u23 hp23 hu23 => ?_)
      obtain ⟨A23, c23, rfl, _⟩ := id hu23
      refine A_take 8 rfl (by kernel_rfl) rfl hs (Y_ldG Try.isAgg23 rfl hp23 ?_)
      refine A_take 9 rfl (by kernel_rfl) rfl hs (Y_len Try.underlying23 rfl ?_)
      refine A_take 10 rfl (by kernel_rfl) rfl hs (Y_min (c := ((min l[k].length 40 : Nat) : Int)) rfl rfl (by omega) ?_)
      refine A_take 11 rfl (by kernel_rfl) rfl hs (Y_sliceB hu19 0 (min l[k].length 40) Try.underlying23 Try.sizeOf5 rfl rfl ⟨_, _, rfl, rfl⟩ (by omega) (by omega) fun s27 hs27 => ?_)
      obtain ⟨A27, c27, rfl, _⟩ := id hs27
      have hle := hs.le
      refine A_only 12 rfl (by kernel_rfl) rfl (S_lit hs Try.underlying22 Try.sizeOf23 Try.zeroValue23 rfl rfl (by decide) (by decide) rfl (cs := [_]) rfl rfl fun v2 _ hs _ => ?_)
      obtain ⟨_, hG28, hl28, hs⟩ := hs.fixRow noM
      replace hl := hl.mono hG28
      replace hvs := hvs.mono hG28
      replace hu19 := hu19.mono hG28
      replace hu23 := hu23.mono hG28
      replace hs27 := hs27.mono hG28
      refine A_moreS hs hle hG28 (List.Sublist.refl _) ?_
      refine A_tail 13 rfl (by kernel_rfl) (by kernel_rfl) rfl (S_append hs Try.underlying22 TI23 rfl (by decide) rfl rfl (hl28) (one1 (Bytes.one hs27)) (by omega) (by omega) fun v3 _ hs => ?_)
      refine A_tail 14 rfl (by kernel_rfl) (by kernel_rfl) rfl (S_y hs rfl (Y_assign rfl ?_))
      refine A_done (by kernel_rfl) (T_sub [(0, _), (3, _), (4, _)] ⟨rfl, rfl, rfl, trivial⟩ ?_)
      refine T_region rfl ?_
      refine O_y hs (Y_move rfl ?_)
      refine O_y hs (Y_add (c := ((k + 1 : Nat) : Int)) rfl rfl (by omega) (by omega) ?_)
      refine O_y hs (Y_assign rfl ?_)
      refine O_nil ⟨_, ?_, [(0, _), (3, _), (4, _)], ⟨rfl, rfl, rfl, trivial⟩, ⟨k + 1, _, vs ++ [_], _, by omega, by omega, by rw [map_take_succ _ l k (by omega)]; exact hvs.snoc (Bytes.cast (by simp [take_min]) hs27), rfl, rfl, by rw [List.length_append]; exact hs⟩⟩
      omega
    · -- h12: False
      dsimp only [cmpP] at h12
      refine O_y hs (Y_pickT rfl rfl ?_)
      refine O_nil (T_sub [(0, _), (3, _), (4, _), (13, _)] ⟨rfl, rfl, rfl, rfl, trivial⟩ ?_)
      refine T_condF rfl (T_exit ?_)
      refine T_seq (T_region rfl ?_)
      refine O_y hs (Y_move rfl ?_)
      refine O_y hs (Y_assign rfl ?_)
      refine O_nil (T_sub [(2, _)] ⟨rfl, trivial⟩ ?_)
      refine T_ret ?_
      refine Rt_fin (vs := [_]) Try.results28 rfl ⟨rfl, trivial⟩ ?_
      try dsimp only [tup]
      rw [few_end hk hk' (by omega)] at hvs
      obtain ⟨G', hG, hf, hs3⟩ := hs.fixRow noM
      exact ⟨G', [], hs3, rfl, vs, by rw [← All2.length hvs]; exact hf, hvs.mono hG⟩
  · -- h9: False
    dsimp only [cmpP] at h9
    refine O_y hs (Y_move rfl ?_)
    refine O_no 10 rfl rfl ?_
    refine O_no 10 rfl rfl ?_
    refine O_y hs (Y_pickF rfl rfl ?_)
    refine O_nil (T_sub [(0, _), (3, _), (4, _), (13, _)] ⟨rfl, rfl, rfl, rfl, trivial⟩ ?_)
    refine T_condF rfl (T_exit ?_)
    refine T_seq (T_region rfl ?_)
    refine O_y hs (Y_move rfl ?_)
    refine O_y hs (Y_assign rfl ?_)
    refine O_nil (T_sub [(2, _)] ⟨rfl, trivial⟩ ?_)
    refine T_ret ?_
    refine Rt_fin (vs := [_]) Try.results28 rfl ⟨rfl, trivial⟩ ?_
    try dsimp only [tup]
    rw [few_end hk hk' (by omega)] at hvs
    obtain ⟨G', hG, hf, hs3⟩ := hs.fixRow noM
    exact ⟨G', [], hs3, rfl, vs, by rw [← All2.length hvs]; exact hf, hvs.mono hG⟩

set_option maxHeartbeats 400000 in
set_option maxRecDepth 10000 in
theorem bytes_ok {v1 v2 v3 : Value} {G : Ghost} {L : List (List UInt8)} {tail : List UInt8} (hL : LBytes G v1 L) (ht : Bytes G v2 tail) (_hv3 : v3.oneCell' = true) :
    FnOk Try.prog 12 [.agg #[v1, v2, v3]] G [] fun r G' H' => H' = [] ∧ Bytes G' r (wireF L tail) := by
  obtain ⟨vL, hL1, hL2⟩ := id hL
  obtain ⟨A, cap, rfl, hL3⟩ := id hL1
  obtain ⟨A2, c2, rfl, ht'⟩ := id ht
  refine FnOk.of_T [(0, _)] Try.func12 rfl Try.ntmps12 (by simp) rfl fun w0 hs => ?_
  have hL0 := hL
  have ht0 := ht
  refine T_seq (T_region rfl ?_)
  refine O_s (S_box hs rfl (cs := [_, _, _]) rfl fun b1 _ hs => ?_)
  refine O_y hs (Y_assign rfl ?_)
  refine O_nil (T_sub [(1, _)] ⟨rfl, trivial⟩ ?_)
  refine T_seq (T_region rfl ?_)
  refine O_s (S_lit hs Try.underlying23 Try.sizeOf5 Try.zeroValue5 rfl rfl (by decide) (by decide) rfl (cs := []) rfl rfl fun v1 _ hs _ => ?_)
  refine O_y hs (Y_fieldAddr FO26_0 rfl (m := 0) rfl ?_)
  refine O_y hs (Y_ld 1 Try.isAgg22 rfl rfl rfl ?_)
  refine O_s (S_call (H1 := []) hs rfl Try.func28 rfl (by kernel_rfl) (few_ok hL) fun v2 G' H' _ hR hG11 hs => ?_)
  obtain ⟨rfl, hf⟩ := hR
  replace hs : St _ _ [_, _] _ := hs
  replace hL := hL.mono hG11
  replace ht := ht.mono hG11
  obtain ⟨vf, hf1, hf2⟩ := id hf
  obtain ⟨A11, c11, rfl, _⟩ := id hf1
  refine O_y hs (Y_assign rfl ?_)
  refine O_y hs (Y_assign rfl ?_)
  refine O_nil (T_sub [(1, _), (3, _), (4, _)] ⟨rfl, rfl, rfl, trivial⟩ ?_)
  refine T_seq (T_seq (T_region rfl ?_))
  refine O_y hs (Y_assign rfl ?_)
  refine O_nil (T_sub [(1, _), (3, _), (4, _), (5, _)] ⟨rfl, rfl, rfl, rfl, trivial⟩ ?_)
  have h40 := fewF_le L
  have h12 := fewF_len L
  refine T_block (T_loop (fun m E w => ∃ (k : Nat) (v3' : Value) (G' : Ghost), k ≤ (fewF L).length ∧ m = (fewF L).length - k ∧ E = ⟨[], [(1, .pointer (some ⟨b1, 0, none⟩)), (3, v3'), (4, (.slice A11 (fewF L).length c11)), (5, .int .i64 (k : Int))]⟩ ∧ LBytes G' (.slice A11 (fewF L).length c11) (fewF L) ∧ St ⟨w0, G, feet []⟩ G' [.row 5 1 v3' (((fewF L).take k).map frameL).flatten.length ((((fewF L).take k).map frameL).flatten.map byteV), .blk b1 26 [.slice A L.length cap, .slice A2 tail.length c2, v3]] w) (L := [(1, _), (3, _), (4, _), (5, _)]) ⟨rfl, rfl, rfl, rfl, trivial⟩ (⟨0, _, _, by omega, rfl, rfl, hf, hs⟩) fun m E w hI => ?_)
  obtain ⟨k, v3', G', hk, rfl, rfl, hf, hs⟩ := hI
  have hL := hL0.mono hs.le
  have ht := ht0.mono hs.le
  have hkl := wire_le h40 k
  refine T_seq (T_seq (T_region rfl ?_))
  refine O_y hs (Y_move rfl ?_)
  refine O_y hs (Y_move rfl ?_)
  refine O_y hs (Y_len Try.underlying22 rfl ?_)
  refine O_y hs (Y_cmpS rfl rfl rfl (fun h15 => ?_) (fun h15 => ?_))
  · -- h15: True
    dsimp only [cmpP] at h15
    refine O_nil (T_sub [(1, _), (3, _), (4, _), (5, _), (15, _)] ⟨rfl, rfl, rfl, rfl, rfl, trivial⟩ ?_)
    refine T_condT rfl (T_skip ?_)
    refine T_seq (T_block (T_seq (T_region rfl ?_)))
    refine O_y hs (Y_move rfl ?_)
    refine O_y hs (Y_move rfl ?_)
    refine O_y hs (Y_idxL hf k Try.underlying22 Try.sizeOf23 rfl rfl rfl (by omega) fun p21 u21 hp21 hu21 => ?_)
    obtain ⟨A21, c21, rfl, _⟩ := id hu21
    refine O_y hs (Y_ldG Try.isAgg23 rfl hp21 ?_)
    refine O_s (S_call (H1 := []) hs rfl Try.func20 rfl (by kernel_rfl) (frameR_ok hu21 (by have := h40 _ (List.getElem_mem (show k < (fewF L).length by omega)); omega)) fun v3 G' H' _ hR hG23 hs => ?_)
    obtain ⟨rfl, u23, rfl, hu23⟩ := hR
    replace hs : St _ _ [_, _] _ := hs
    replace hL := hL.mono hG23
    replace ht := ht.mono hG23
    replace hf := hf.mono hG23
    replace hu21 := hu21.mono hG23
    refine O_y hs (Y_move rfl ?_)
    refine O_y hs (Y_extract rfl rfl ?_)
    refine O_y hs (Y_extract rfl rfl ?_)
    refine O_y hs (Y_assign rfl ?_)
    refine O_y hs (Y_assign rfl ?_)
    refine O_nil (T_sub [(1, _), (3, _), (4, _), (5, _), (6, _)] ⟨rfl, rfl, rfl, rfl, rfl, trivial⟩ ?_)
    refine T_region rfl ?_
    refine O_y hs (Y_move rfl ?_)
    refine O_y hs (Y_move rfl ?_)
    refine O_s (S_append hs Try.underlying23 TI5 rfl (by decide) rfl rfl (hu23) (byteV_one) (by rw [frameL_length]; have := h40 _ (List.getElem_mem (show k < (fewF L).length by omega)); omega) (by rw [frameL_length]; have := h40 _ (List.getElem_mem (show k < (fewF L).length by omega)); omega) fun v4 _ hs => ?_)
    refine O_y hs (Y_assign rfl ?_)
    refine O_nil (T_sub [(1, _), (3, _), (4, _), (5, _)] ⟨rfl, rfl, rfl, rfl, trivial⟩ ?_)
    refine T_region rfl ?_
    refine O_y hs (Y_move rfl ?_)
    refine O_y hs (Y_add (c := ((k + 1 : Nat) : Int)) rfl rfl (by omega) (by omega) ?_)
    refine O_y hs (Y_assign rfl ?_)
    refine O_nil ⟨_, ?_, [(1, _), (3, _), (4, _), (5, _)], ⟨rfl, rfl, rfl, rfl, trivial⟩, ⟨k + 1, _, _, by omega, rfl, rfl, hf, by rw [wire_succ _ k (by omega), List.length_append, List.map_append]; exact hs⟩⟩
    omega
  · -- h15: False
    dsimp only [cmpP] at h15
    refine O_nil (T_sub [(1, _), (3, _), (4, _), (5, _), (15, _)] ⟨rfl, rfl, rfl, rfl, rfl, trivial⟩ ?_)
    refine T_condF rfl (T_exit ?_)
    refine T_seq (T_region rfl ?_)
    refine O_y hs (Y_move rfl ?_)
    refine O_y hs (Y_fieldAddr FO26_1 rfl (m := 1) rfl ?_)
    refine O_y hs (Y_ld 1 Try.isAgg23 rfl rfl rfl ?_)
    refine O_y hs (Y_fieldAddr FO26_1 rfl (m := 1) rfl ?_)
    refine O_y hs (Y_ld 1 Try.isAgg23 rfl rfl rfl ?_)
    refine O_y hs (Y_len Try.underlying23 rfl ?_)
    refine O_y hs (Y_min (c := ((min tail.length 60 : Nat) : Int)) rfl rfl (by omega) ?_)
    refine O_y hs (Y_sliceB ht 0 (min tail.length 60) Try.underlying23 Try.sizeOf5 rfl rfl ⟨_, _, rfl, rfl⟩ (by omega) (by omega) fun s36 hs36 => ?_)
    obtain ⟨A36, c36, rfl, _⟩ := id hs36
    refine O_s (S_append hs Try.underlying23 TI5 rfl (by decide) rfl rfl (hs36) (byteV_one) (by rw [List.length_take, List.length_drop]; omega) (by rw [List.length_take, List.length_drop]; omega) fun v5 _ hs => ?_)
    refine O_y hs (Y_assign rfl ?_)
    refine O_nil (T_sub [(2, _)] ⟨rfl, trivial⟩ ?_)
    refine T_ret ?_
    refine Rt_fin (vs := [_]) Try.results12 rfl ⟨rfl, trivial⟩ ?_
    try dsimp only [tup]
    obtain rfl : k = (fewF L).length := by omega
    rw [List.take_length] at hs
    obtain ⟨G', hG, hf, hs3⟩ := hs.fixRow noM
    exact ⟨G', [], hs3.done, rfl, Bytes.cast (wireF_eq L tail) (by unfold Bytes; rw [List.length_append, List.map_append]; exact hf)⟩

set_option maxHeartbeats 400000 in
set_option maxRecDepth 10000 in
theorem step_ok {v : Value} {G : Ghost} {d : Dec} (hd : DecR G v d) (hl : d.rest.length ≤ 1000000000) (hc : -1 ≤ d.credit) (hc' : d.credit ≤ 1073741824) :
    FnOk Try.prog 34 [v] G [] fun r G' H' => H' = [] ∧ ∃ dv mv, r = .tuple #[dv, mv, .bool (stepF d).2.2] ∧ DecR G' dv (stepF d).1 ∧ Bytes G' mv (stepF d).2.1 := by
  obtain ⟨rest, credit, failed⟩ := d
  obtain ⟨u, rfl, hu⟩ := hd
  obtain ⟨A, cap, rfl, hu'⟩ := id hu
  dsimp only at hl hc hc' hu hu' ⊢
  refine FnOk.of_T [(0, _)] Try.func34 rfl Try.ntmps34 (by simp) rfl fun w0 hs => ?_
  have hu0 := hu
  refine T_seq (T_region rfl ?_)
  refine O_s (S_box hs rfl (cs := [_, _, _]) rfl fun b1 _ hs => ?_)
  refine O_s (S_alloc hs Try.zeroValue28 (cs := [_, _, _]) rfl fun b2 _ hs => ?_)
  refine O_y hs (Y_assign rfl ?_)
  refine O_y hs (Y_assign rfl ?_)
  refine O_nil (T_sub [(1, _), (2, _)] ⟨rfl, rfl, trivial⟩ ?_)
  refine T_seq (T_seq (T_region rfl ?_))
  refine O_y hs (Y_fieldAddr FO28_0 rfl (m := 0) rfl ?_)
  refine O_y hs (Y_ld 1 Try.isAgg23 rfl rfl rfl ?_)
  refine O_y hs (Y_len Try.underlying23 rfl ?_)
  refine O_y hs (Y_cmpS rfl rfl rfl (fun h10 => ?_) (fun h10 => ?_))
  · -- h10: True
    dsimp only [cmpP] at h10
    refine O_nil (T_sub [(1, _), (2, _), (10, _)] ⟨rfl, rfl, rfl, trivial⟩ ?_)
    refine T_condT rfl (T_seq (T_region rfl ?_))
    refine O_y hs (Y_ldA 1 Try.isAgg28 Try.sizeOf28 rfl rfl (vs := [_, _, _]) rfl rfl ?_)
    refine O_n (S_stA hs Try.sizeOf28 rfl rfl (vs := [_, _, _]) rfl rfl (by simp) (cs' := [_, _, _]) rfl fun _ hs => ?_)
    refine O_y hs (Y_assign rfl ?_)
    refine O_y hs (Y_assign rfl ?_)
    refine O_nil (T_sub [(2, _), (3, _), (4, _)] ⟨rfl, rfl, rfl, trivial⟩ ?_)
    refine T_ret ?_
    have hr := hs
    refine Rt_fin (vs := [_, _, _]) Try.results34 rfl ⟨ResOk_blk 0 hr Try.isAgg28 Try.sizeOf28 rfl (cs := [_, _, _]) rfl rfl, rfl, rfl, trivial⟩ ?_
    try dsimp only [tup]
    rw [stepF_short (by dsimp only; omega)]
    exact ⟨_, [], hs.done, rfl, _, _, rfl, ⟨_, rfl, hu⟩, Sl.nil _ _⟩
  · -- h10: False
    dsimp only [cmpP] at h10
    refine O_nil (T_sub [(1, _), (2, _), (10, _)] ⟨rfl, rfl, rfl, trivial⟩ ?_)
    refine T_condF rfl (T_skip ?_)
    obtain ⟨a, b, t, rfl⟩ := two_le (show 2 ≤ rest.length by omega)
    have ha := a.toNat_lt
    have hb := b.toNat_lt
    refine T_seq (T_drawS [0, 1, 2, 3, 4, 5, 6, 7, 8, 9, 10, 11, 12] hs (by kernel_rfl) ?_)
    replace hs := hs.drew
    refine A_take 0 rfl (by kernel_rfl) rfl hs (Y_fieldAddr FO28_0 rfl (m := 0) rfl ?_)
    refine A_take 1 rfl (by kernel_rfl) rfl hs (Y_ld 1 Try.isAgg23 rfl rfl rfl ?_)
    refine A_take 2 rfl (by kernel_rfl) rfl hs (Y_idxB hu 0 Try.underlying23 Try.sizeOf5 rfl rfl rfl (by simp) fun p14 hp14 => ?_)
    refine A_take 3 rfl (by kernel_rfl) rfl hs (Y_ldG Try.isAgg5 rfl hp14 ?_)
    refine A_take 4 rfl (by kernel_rfl) rfl hs (Y_conv Try.underlying5 Try.underlying3 (c := (a.toNat : Int)) rfl (wrap64_byte a) ?_)
    refine A_take 5 rfl (by kernel_rfl) rfl hs (Y_mul (c := ((256 * a.toNat : Nat) : Int)) rfl rfl (by omega) (by omega) ?_)
    refine A_take 6 rfl (by kernel_rfl) rfl hs (Y_fieldAddr FO28_0 rfl (m := 0) rfl ?_)
    refine A_take 7 rfl (by kernel_rfl) rfl hs (Y_ld 1 Try.isAgg23 rfl rfl rfl ?_)
    refine A_take 8 rfl (by kernel_rfl) rfl hs (Y_idxB hu 1 Try.underlying23 Try.sizeOf5 rfl rfl rfl (by simp) fun p20 hp20 => ?_)
    refine A_take 9 rfl (by kernel_rfl) rfl hs (Y_ldG Try.isAgg5 rfl hp20 ?_)
    refine A_take 10 rfl (by kernel_rfl) rfl hs (Y_conv Try.underlying5 Try.underlying3 (c := (b.toNat : Int)) rfl (wrap64_byte b) ?_)
    refine A_take 11 rfl (by kernel_rfl) rfl hs (Y_add (c := ((256 * a.toNat + b.toNat : Nat) : Int)) rfl rfl (by omega) (by omega) ?_)
    refine A_take 12 rfl (by kernel_rfl) rfl hs (Y_assign rfl ?_)
    refine A_done (by kernel_rfl) (T_sub [(1, _), (2, _), (5, _)] ⟨rfl, rfl, rfl, trivial⟩ ?_)
    refine T_seq (T_seq (T_region rfl ?_))
    refine O_y hs (Y_move rfl ?_)
    refine O_y hs (Y_cmpS rfl rfl rfl (fun h25 => ?_) (fun h25 => ?_))
    · -- h25: True
      dsimp only [cmpP] at h25
      refine O_nil (T_sub [(1, _), (2, _), (5, _), (25, _)] ⟨rfl, rfl, rfl, rfl, trivial⟩ ?_)
      refine T_condT rfl (T_seq (T_region rfl ?_))
      refine O_y hs (Y_fieldAddr FO28_1 rfl (m := 1) rfl ?_)
      refine O_y hs (Y_ld 1 Try.isAgg3 rfl rfl rfl ?_)
      refine O_y hs (Y_build Try.zeroValue28 rfl PL28 rfl (cs := [_, _, _]) rfl ?_)
      refine O_n (S_stA hs Try.sizeOf28 rfl rfl (vs := [_, _, _]) rfl rfl (by simp) (cs' := [_, _, _]) rfl fun _ hs => ?_)
      refine O_y hs (Y_assign rfl ?_)
      refine O_y hs (Y_assign rfl ?_)
      refine O_nil (T_sub [(2, _), (3, _), (4, _)] ⟨rfl, rfl, rfl, trivial⟩ ?_)
      refine T_ret ?_
      have hr := hs
      refine Rt_fin (vs := [_, _, _]) Try.results34 rfl ⟨ResOk_blk 0 hr Try.isAgg28 Try.sizeOf28 rfl (cs := [_, _, _]) rfl rfl, rfl, rfl, trivial⟩ ?_
      try dsimp only [tup]
      rw [stepF_big (by omega)]
      exact ⟨_, [], hs.done, rfl, _, _, rfl, ⟨_, rfl, Sl.nil _ _⟩, Sl.nil _ _⟩
    · -- h25: False
      dsimp only [cmpP] at h25
      refine O_nil (T_sub [(1, _), (2, _), (5, _), (25, _)] ⟨rfl, rfl, rfl, rfl, trivial⟩ ?_)
      refine T_condF rfl (T_skip ?_)
      refine T_seq (T_seq (T_region rfl ?_))
      refine O_y hs (Y_move rfl ?_)
      refine O_y hs (Y_cmpS rfl rfl rfl (fun h30 => ?_) (fun h30 => ?_))
      · -- h30: True
        dsimp only [cmpP] at h30
        refine O_nil (T_sub [(1, _), (2, _), (5, _), (30, _)] ⟨rfl, rfl, rfl, rfl, trivial⟩ ?_)
        refine T_condT rfl (T_seq (T_region rfl ?_))
        refine O_y hs (Y_fieldAddr FO28_0 rfl (m := 0) rfl ?_)
        refine O_y hs (Y_ld 1 Try.isAgg23 rfl rfl rfl ?_)
        refine O_y hs (Y_sliceB hu 2 (a :: b :: t).length Try.underlying23 Try.sizeOf5 rfl ⟨_, _, rfl, rfl⟩ rfl (by simp) (by omega) fun s33 hs33 => ?_)
        obtain ⟨A33, c33, rfl, _⟩ := id hs33
        refine O_y hs (Y_fieldAddr FO28_0 rfl (m := 0) rfl ?_)
        have hs := hs.front 1 rfl (H' := [_, _]) rfl
        refine O_n (S_st hs Try.sizeOf23 rfl rfl rfl (by simp) (cs' := [_, _, _]) rfl fun _ hs => ?_)
        refine O_nil (T_sub [(1, _), (2, _)] ⟨rfl, rfl, trivial⟩ ?_)
        refine T_seq (T_region rfl ?_)
        refine O_y hs (Y_ldA 0 Try.isAgg28 Try.sizeOf28 rfl rfl (vs := [_, _, _]) rfl rfl ?_)
        have hs := hs.front 1 rfl (H' := [_, _]) rfl
        refine O_n (S_stA hs Try.sizeOf28 rfl rfl (vs := [_, _, _]) rfl rfl (by simp) (cs' := [_, _, _]) rfl fun _ hs => ?_)
        refine O_y hs (Y_assign rfl ?_)
        refine O_y hs (Y_assign rfl ?_)
        refine O_nil (T_sub [(2, _), (3, _), (4, _)] ⟨rfl, rfl, rfl, trivial⟩ ?_)
        refine T_ret ?_
        have hr := hs
        refine Rt_fin (vs := [_, _, _]) Try.results34 rfl ⟨ResOk_blk 0 hr Try.isAgg28 Try.sizeOf28 rfl (cs := [_, _, _]) rfl rfl, rfl, rfl, trivial⟩ ?_
        try dsimp only [tup]
        rw [stepF_zero (by omega)]
        exact ⟨_, [], hs.done, rfl, _, _, rfl, ⟨_, rfl, Bytes.cast (by simp) hs33⟩, Sl.nil _ _⟩
      · -- h30: False
        dsimp only [cmpP] at h30
        refine O_nil (T_sub [(1, _), (2, _), (5, _), (30, _)] ⟨rfl, rfl, rfl, rfl, trivial⟩ ?_)
        refine T_condF rfl (T_skip ?_)
        refine T_seq (T_seq (T_region rfl ?_))
        refine O_y hs (Y_fieldAddr FO28_0 rfl (m := 0) rfl ?_)
        refine O_y hs (Y_ld 1 Try.isAgg23 rfl rfl rfl ?_)
        refine O_y hs (Y_len Try.underlying23 rfl ?_)
        refine O_y hs (Y_move rfl ?_)
        refine O_y hs (Y_add (c := ((256 * a.toNat + b.toNat + 2 : Nat) : Int)) rfl rfl (by omega) (by omega) ?_)
        refine O_y hs (Y_cmpS rfl rfl rfl (fun h41 => ?_) (fun h41 => ?_))
        · -- h41: True
          dsimp only [cmpP] at h41
          refine O_y hs (Y_move rfl ?_)
          refine O_no 42 rfl rfl ?_
          refine O_no 42 rfl rfl ?_
          refine O_no 42 rfl rfl ?_
          refine O_y hs (Y_pickT rfl rfl ?_)
          refine O_nil (T_sub [(1, _), (2, _), (5, _), (46, _)] ⟨rfl, rfl, rfl, rfl, trivial⟩ ?_)
          refine T_condT rfl (T_seq (T_region rfl ?_))
          refine O_y hs (Y_ldA 1 Try.isAgg28 Try.sizeOf28 rfl rfl (vs := [_, _, _]) rfl rfl ?_)
          refine O_n (S_stA hs Try.sizeOf28 rfl rfl (vs := [_, _, _]) rfl rfl (by simp) (cs' := [_, _, _]) rfl fun _ hs => ?_)
          refine O_y hs (Y_assign rfl ?_)
          refine O_y hs (Y_assign rfl ?_)
          refine O_nil (T_sub [(2, _), (3, _), (4, _)] ⟨rfl, rfl, rfl, trivial⟩ ?_)
          refine T_ret ?_
          have hr := hs
          refine Rt_fin (vs := [_, _, _]) Try.results34 rfl ⟨ResOk_blk 0 hr Try.isAgg28 Try.sizeOf28 rfl (cs := [_, _, _]) rfl rfl, rfl, rfl, trivial⟩ ?_
          try dsimp only [tup]
          rw [stepF_wait (by omega) (by omega) (by simp only [List.length_cons] at h41; omega)]
          exact ⟨_, [], hs.done, rfl, _, _, rfl, ⟨_, rfl, hu⟩, Sl.nil _ _⟩
        · -- h41: False
          dsimp only [cmpP] at h41
          refine O_y hs (Y_move rfl ?_)
          refine O_yy 42 hs rfl rfl (Y_fieldAddr FO28_1 rfl (m := 1) rfl ?_)
          refine O_yy 42 hs rfl rfl (Y_ld 1 Try.isAgg3 rfl rfl rfl ?_)
          refine O_yy 42 hs rfl rfl (Y_cmpS rfl rfl rfl (fun h45 => ?_) (fun h45 => ?_))
          · -- h45: True
            dsimp only [cmpP] at h45
            refine O_y hs (Y_pickF rfl rfl ?_)
            refine O_nil (T_sub [(1, _), (2, _), (5, _), (46, _)] ⟨rfl, rfl, rfl, rfl, trivial⟩ ?_)
            refine T_condT rfl (T_seq (T_region rfl ?_))
            refine O_y hs (Y_ldA 1 Try.isAgg28 Try.sizeOf28 rfl rfl (vs := [_, _, _]) rfl rfl ?_)
            refine O_n (S_stA hs Try.sizeOf28 rfl rfl (vs := [_, _, _]) rfl rfl (by simp) (cs' := [_, _, _]) rfl fun _ hs => ?_)
            refine O_y hs (Y_assign rfl ?_)
            refine O_y hs (Y_assign rfl ?_)
            refine O_nil (T_sub [(2, _), (3, _), (4, _)] ⟨rfl, rfl, rfl, trivial⟩ ?_)
            refine T_ret ?_
            have hr := hs
            refine Rt_fin (vs := [_, _, _]) Try.results34 rfl ⟨ResOk_blk 0 hr Try.isAgg28 Try.sizeOf28 rfl (cs := [_, _, _]) rfl rfl, rfl, rfl, trivial⟩ ?_
            try dsimp only [tup]
            rw [stepF_wait (by omega) (by omega) (by simp only [List.length_cons] at h41; omega)]
            exact ⟨_, [], hs.done, rfl, _, _, rfl, ⟨_, rfl, hu⟩, Sl.nil _ _⟩
          · -- h45: False
            dsimp only [cmpP] at h45
            refine O_y hs (Y_pickF rfl rfl ?_)
            refine O_nil (T_sub [(1, _), (2, _), (5, _), (46, _)] ⟨rfl, rfl, rfl, rfl, trivial⟩ ?_)
            refine T_condF rfl (T_skip ?_)
            refine T_seq (T_region rfl ?_)
            refine O_s (S_lit hs Try.underlying23 Try.sizeOf5 Try.zeroValue5 rfl rfl (by decide) (by decide) rfl (cs := []) rfl rfl fun v1 _ hs _ => ?_)
            refine O_y hs (Y_fieldAddr FO28_0 rfl (m := 0) rfl ?_)
            refine O_y hs (Y_ld 2 Try.isAgg23 rfl rfl rfl ?_)
            refine O_y hs (Y_move rfl ?_)
            refine O_y hs (Y_add (c := ((256 * a.toNat + b.toNat + 2 : Nat) : Int)) rfl rfl (by omega) (by omega) ?_)
            refine O_y hs (Y_sliceB hu 2 (256 * a.toNat + b.toNat + 2) Try.underlying23 Try.sizeOf5 rfl ⟨_, _, rfl, rfl⟩ ⟨_, _, rfl, rfl⟩ (by omega) (by simp only [List.length_cons] at h41 ⊢; omega) fun s53 hs53 => ?_)
            obtain ⟨A53, c53, rfl, _⟩ := id hs53
            refine O_s (S_append hs Try.underlying23 TI5 rfl (by decide) rfl rfl (hs53) (byteV_one) (by rw [List.length_take, List.length_drop]; omega) (by rw [List.length_take, List.length_drop]; omega) fun v2 _ hs => ?_)
            refine O_y hs (Y_assign rfl ?_)
            refine O_nil (T_sub [(1, _), (2, _), (5, _), (6, _)] ⟨rfl, rfl, rfl, rfl, trivial⟩ ?_)
            refine T_seq (T_drawS [0, 1, 2, 3, 4, 5, 6, 7, 8] hs (by kernel_rfl) ?_)
            replace hs := hs.drew
            refine A_pure 9 rfl (by kernel_rfl) rfl (Y_move rfl ?_)
            refine A_take 0 rfl (by kernel_rfl) rfl hs (Y_fieldAddr FO28_0 rfl (m := 0) rfl ?_)
            refine A_take 1 rfl (by kernel_rfl) rfl hs (Y_ld 2 Try.isAgg23 rfl rfl rfl ?_)
            refine A_take 2 rfl (by kernel_rfl) rfl hs (Y_move rfl ?_)
            refine A_take 3 rfl (by kernel_rfl) rfl hs (Y_add (c := ((256 * a.toNat + b.toNat + 2 : Nat) : Int)) rfl rfl (by omega) (by omega) ?_)
            refine A_take 4 rfl (by kernel_rfl) rfl hs (Y_sliceB hu (256 * a.toNat + b.toNat + 2) (a :: b :: t).length Try.underlying23 Try.sizeOf5 rfl ⟨_, _, rfl, rfl⟩ rfl (by simp only [List.length_cons] at h41 ⊢; omega) (by omega) fun s59 hs59 => ?_)
            obtain ⟨A59, c59, rfl, _⟩ := id hs59
            refine A_take 5 rfl (by kernel_rfl) rfl hs (Y_fieldAddr FO28_1 rfl (m := 1) rfl ?_)
            refine A_take 6 rfl (by kernel_rfl) rfl hs (Y_ld 2 Try.isAgg3 rfl rfl rfl ?_)
            refine A_take 7 rfl (by kernel_rfl) rfl hs (Y_sub (c := credit - 1) rfl rfl (by omega) (by omega) ?_)
            refine A_take 8 rfl (by kernel_rfl) rfl hs (Y_build Try.zeroValue28 rfl PL28 rfl (cs := [_, _, _]) rfl ?_)
            have hs := hs.front 1 rfl (H' := [_, _, _]) rfl
            refine A_tailN 10 rfl (by kernel_rfl) (by kernel_rfl) rfl (S_stA hs Try.sizeOf28 rfl rfl (vs := [_, _, _]) rfl rfl (by simp) (cs' := [_, _, _]) rfl fun _ hs => ?_)
            refine A_tail 11 rfl (by kernel_rfl) (by kernel_rfl) rfl (S_y hs rfl (Y_assign rfl ?_))
            refine A_tail 12 rfl (by kernel_rfl) (by kernel_rfl) rfl (S_y hs rfl (Y_assign rfl ?_))
            refine A_done (by kernel_rfl) (T_sub [(2, _), (3, _), (4, _)] ⟨rfl, rfl, rfl, trivial⟩ ?_)
            refine T_ret ?_
            have hs := hs.front 1 rfl (H' := [_, _, _]) rfl
            have hr := hs
            refine Rt_fin (vs := [_, _, _]) Try.results34 rfl ⟨ResOk_blk 1 hr Try.isAgg28 Try.sizeOf28 rfl (cs := [_, _, _]) rfl rfl, rfl, rfl, trivial⟩ ?_
            try dsimp only [tup]
            rw [stepF_take (by omega) (by omega) (by simp only [List.length_cons] at h41; omega)]
            obtain ⟨G', hG, hf, hs3⟩ := hs.fixRow noM
            exact ⟨G', [], hs3.done, rfl, _, _, rfl, ⟨_, rfl, Bytes.cast (dt a b t _) (hs59.mono hG)⟩, Bytes.cast (tk a b t _) (by simpa [Bytes] using hf)⟩

set_option maxHeartbeats 400000 in
set_option maxRecDepth 10000 in
theorem grow_ok {G : Ghost} {n : Nat} (hn : n ≤ 1000000) :
    FnOk Try.prog 37 [.slice none 0 0, .int .i64 (n : Int)] G [] fun r _ H' => H' = [.row 5 1 r 0 []] := by
  refine FnOk.of_T [(0, _), (1, _)] Try.func37 rfl Try.ntmps37 (by simp) rfl fun w0 hs => ?_
  refine T_seq (T_region rfl ?_)
  refine O_y hs (Y_assign rfl ?_)
  refine O_nil (T_sub [(0, _), (1, _)] ⟨rfl, rfl, trivial⟩ ?_)
  refine T_seq (T_seq (T_region rfl ?_))
  refine O_y hs (Y_move rfl ?_)
  refine O_y hs (Y_cmpF rfl rfl rfl (by omega) ?_)
  refine O_nil (T_sub [(0, _), (1, _), (6, _)] ⟨rfl, rfl, rfl, trivial⟩ ?_)
  refine T_condF rfl (T_skip ?_)
  refine T_seq (T_seq (T_region rfl ?_))
  refine O_y hs (Y_move rfl ?_)
  refine O_y hs (Y_move rfl ?_)
  refine O_y hs (Y_cap Try.underlying23 rfl ?_)
  refine O_y hs (Y_move rfl ?_)
  refine O_y hs (Y_len Try.underlying23 rfl ?_)
  refine O_y hs (Y_sub (c := 0) rfl rfl (by omega) (by omega) ?_)
  refine O_y hs (Y_sub (c := (n : Int)) rfl rfl (by omega) (by omega) ?_)
  refine O_y hs (Y_assign rfl ?_)
  refine O_nil (T_sub [(0, _), (1, _)] ⟨rfl, rfl, trivial⟩ ?_)
  refine T_seq (T_region rfl ?_)
  refine O_y hs (Y_move rfl ?_)
  refine O_y hs (Y_cmpS rfl rfl rfl (fun h16 => ?_) (fun h16 => ?_))
  · -- h16: True
    dsimp only [cmpP] at h16
    refine O_nil (T_sub [(0, _), (1, _), (16, _)] ⟨rfl, rfl, rfl, trivial⟩ ?_)
    refine T_condT rfl (T_region rfl ?_)
    refine O_y hs (Y_move rfl ?_)
    refine O_y hs (Y_move rfl ?_)
    refine O_y hs (Y_cap Try.underlying23 rfl ?_)
    refine O_y hs (Y_sliceRaw 0 Try.underlying23 Try.sizeOf5 rfl rfl rfl (by omega) ?_)
    refine O_y hs (Y_move rfl ?_)
    refine O_s (S_appendZ hs Try.underlying23 Try.underlying3 TI5 rfl rfl rfl (by omega) (by omega) (by omega) fun bz cz xz _ hcz hs => ?_)
    refine O_y hs (Y_move rfl ?_)
    refine O_y hs (Y_len Try.underlying23 rfl ?_)
    refine O_y hs (Y_sliceRaw 0 Try.underlying23 Try.sizeOf5 rfl rfl rfl (by omega) ?_)
    refine O_y hs (Y_assign rfl ?_)
    refine O_nil (T_sub [(0, _)] ⟨rfl, trivial⟩ ?_)
    refine T_seq (T_region rfl ?_)
    refine O_y hs (Y_move rfl ?_)
    refine O_y hs (Y_assign rfl ?_)
    refine O_nil (T_sub [(4, _)] ⟨rfl, trivial⟩ ?_)
    refine T_ret ?_
    refine Rt_fin (vs := [_]) Try.results37 rfl ⟨rfl, trivial⟩ ?_
    try dsimp only [tup]
    have hs := hs.rowTake (m := 0) (by omega)
    exact ⟨_, _, hs, by simp⟩
  · -- h16: False
    dsimp only [cmpP] at h16
    refine O_nil (T_sub [(0, _), (1, _), (16, _)] ⟨rfl, rfl, rfl, trivial⟩ ?_)
    refine T_condF rfl (T_skip ?_)
    refine T_seq (T_region rfl ?_)
    refine O_y hs (Y_move rfl ?_)
    refine O_y hs (Y_assign rfl ?_)
    refine O_nil (T_sub [(4, _)] ⟨rfl, trivial⟩ ?_)
    refine T_ret ?_
    refine Rt_fin (vs := [_]) Try.results37 rfl ⟨rfl, trivial⟩ ?_
    try dsimp only [tup]
    exact ⟨_, _, hs.nilRow 5 1, rfl⟩

set_option maxHeartbeats 400000 in
set_option maxRecDepth 10000 in
theorem concat_ok {v : Value} {G : Ghost} {l : List (List UInt8)} (hl : LBytes G v l) (hn : l.length ≤ 1000000) (hm : l.flatten.length ≤ 1000000) :
    FnOk Try.prog 31 [v] G [] fun r G' H' => H' = [] ∧ Bytes G' r l.flatten := by
  obtain ⟨vl, hl1, hl2⟩ := id hl
  obtain ⟨A, cap, rfl, hl3⟩ := id hl1
  refine FnOk.of_T [(0, _)] Try.func31 rfl Try.ntmps31 (by simp) rfl fun w0 hs => ?_
  have hl0 := hl
  refine T_seq (T_region rfl ?_)
  refine O_y hs (Y_assign rfl ?_)
  refine O_nil (T_sub [(0, _)] ⟨rfl, trivial⟩ ?_)
  refine T_seq (T_region rfl ?_)
  refine O_y hs (Y_assign rfl ?_)
  refine O_nil (T_sub [(0, _), (3, _)] ⟨rfl, rfl, trivial⟩ ?_)
  refine T_seq (T_seq (T_region rfl ?_))
  refine O_y hs (Y_move rfl ?_)
  refine O_y hs (Y_len Try.underlying22 rfl ?_)
  refine O_y hs (Y_move rfl ?_)
  refine O_nil (T_sub [(0, _), (3, _), (9, _), (10, _), (11, _)] ⟨rfl, rfl, rfl, rfl, rfl, trivial⟩ ?_)
  refine T_block (T_loop (fun m E w => ∃ k : Nat, k ≤ l.length ∧ m = l.length - k ∧ E = ⟨[], [(0, (.slice A l.length cap)), (3, .int .i64 ((l.take k).flatten.length : Nat)), (9, (.slice A l.length cap)), (10, .int .i64 (l.length : Int)), (11, .int .i64 (k : Int))]⟩ ∧ St ⟨w0, G, feet []⟩ G [] w) (L := [(0, _), (3, _), (9, _), (10, _), (11, _)]) ⟨rfl, rfl, rfl, rfl, rfl, trivial⟩ (⟨0, by omega, rfl, rfl, hs⟩) fun m E w hI => ?_)
  obtain ⟨k, hk, rfl, rfl, hs⟩ := hI
  have hl := hl0.mono hs.le
  have hfl := fun h => flat_le l k h
  refine T_seq (T_region rfl ?_)
  refine O_y hs (Y_cmpS rfl rfl rfl (fun h12 => ?_) (fun h12 => ?_))
  · -- h12: True
    dsimp only [cmpP] at h12
    refine O_nil (T_sub [(0, _), (3, _), (9, _), (10, _), (11, _), (12, _)] ⟨rfl, rfl, rfl, rfl, rfl, rfl, trivial⟩ ?_)
    refine T_seq (T_condT rfl (T_skip ?_))
    refine T_seq (T_block (T_seq (T_region rfl ?_)))
    refine O_y hs (Y_idxL hl k Try.underlying22 Try.sizeOf23 rfl rfl rfl (by omega) fun p13 u13 hp13 hu13 => ?_)
    obtain ⟨A13, c13, rfl, _⟩ := id hu13
    refine O_y hs (Y_ldG Try.isAgg23 rfl hp13 ?_)
    refine O_y hs (Y_assign rfl ?_)
    refine O_nil (T_sub [(0, _), (3, _), (5, _), (9, _), (10, _), (11, _)] ⟨rfl, rfl, rfl, rfl, rfl, rfl, trivial⟩ ?_)
    refine T_seq (T_region rfl ?_)
    refine O_y hs (Y_move rfl ?_)
    refine O_y hs (Y_move rfl ?_)
    refine O_y hs (Y_len Try.underlying23 rfl ?_)
    refine O_y hs (Y_add (c := (((l.take k).flatten.length + l[k].length : Nat) : Int)) rfl rfl (by have := flat_le l k (by omega); omega) (by have := flat_le l k (by omega); omega) ?_)
    refine O_y hs (Y_assign rfl ?_)
    refine O_nil (T_sub [(0, _), (3, _), (9, _), (10, _), (11, _)] ⟨rfl, rfl, rfl, rfl, rfl, trivial⟩ ?_)
    refine T_seq (T_region rfl ?_)
    refine O_y hs (Y_move rfl ?_)
    refine O_y hs (Y_cmpF rfl rfl rfl (by omega) ?_)
    refine O_nil (T_sub [(0, _), (3, _), (9, _), (10, _), (11, _), (20, _)] ⟨rfl, rfl, rfl, rfl, rfl, rfl, trivial⟩ ?_)
    refine T_condF rfl (T_skip ?_)
    refine T_region rfl ?_
    refine O_y hs (Y_add (c := ((k + 1 : Nat) : Int)) rfl rfl (by omega) (by omega) ?_)
    refine O_y hs (Y_move rfl ?_)
    refine O_nil ⟨_, ?_, [(0, _), (3, _), (9, _), (10, _), (11, _)], ⟨rfl, rfl, rfl, rfl, rfl, trivial⟩, ⟨k + 1, by omega, rfl, by rw [flat_succ l k (by omega), List.length_append], hs⟩⟩
    omega
  · -- h12: False
    dsimp only [cmpP] at h12
    refine O_nil (T_sub [(0, _), (3, _), (9, _), (10, _), (11, _), (12, _)] ⟨rfl, rfl, rfl, rfl, rfl, rfl, trivial⟩ ?_)
    refine T_seq (T_condF rfl (T_exit ?_))
    refine T_seq (T_region rfl ?_)
    refine O_y hs (Y_move rfl ?_)
    refine O_s (S_call (H1 := []) hs rfl Try.func37 rfl (by kernel_rfl) (grow_ok (n := (l.take k).flatten.length) (by rw [List.take_of_length_le (by omega)]; exact hm)) fun v1 G' H' _ hR hG24 hs => ?_)
    obtain rfl := hR
    replace hs : St _ _ [_] _ := hs
    replace hl := hl.mono hG24
    refine O_y hs (Y_assign rfl ?_)
    refine O_nil (T_sub [(0, _), (6, _)] ⟨rfl, rfl, trivial⟩ ?_)
    refine T_seq (T_seq (T_region rfl ?_))
    refine O_y hs (Y_move rfl ?_)
    refine O_y hs (Y_len Try.underlying22 rfl ?_)
    refine O_y hs (Y_move rfl ?_)
    refine O_nil (T_sub [(6, _), (25, _), (26, _), (27, _)] ⟨rfl, rfl, rfl, rfl, trivial⟩ ?_)
    refine T_block (T_loop (fun m E w => ∃ (k : Nat) (v3 : Value), k ≤ l.length ∧ m = l.length - k ∧ E = ⟨[], [(6, v3), (25, (.slice A l.length cap)), (26, .int .i64 (l.length : Int)), (27, .int .i64 (k : Int))]⟩ ∧ St ⟨w0, G, feet []⟩ G' [.row 5 1 v3 (l.take k).flatten.length ((l.take k).flatten.map byteV)] w) (L := [(6, _), (25, _), (26, _), (27, _)]) ⟨rfl, rfl, rfl, rfl, trivial⟩ (⟨0, _, by omega, rfl, rfl, hs⟩) fun m E w hI => ?_)
    obtain ⟨k, v3, hk, rfl, rfl, hs⟩ := hI
    have hl := hl0.mono hs.le
    refine T_seq (T_region rfl ?_)
    refine O_y hs (Y_cmpS rfl rfl rfl (fun h28 => ?_) (fun h28 => ?_))
    · -- h28: True
      dsimp only [cmpP] at h28
      refine O_nil (T_sub [(6, _), (25, _), (26, _), (27, _), (28, _)] ⟨rfl, rfl, rfl, rfl, rfl, trivial⟩ ?_)
      refine T_seq (T_condT rfl (T_skip ?_))
      refine T_seq (T_block (T_seq (T_region rfl ?_)))
      refine O_y hs (Y_idxL hl k Try.underlying22 Try.sizeOf23 rfl rfl rfl (by omega) fun p29 u29 hp29 hu29 => ?_)
      obtain ⟨A29, c29, rfl, _⟩ := id hu29
      refine O_y hs (Y_ldG Try.isAgg23 rfl hp29 ?_)
      refine O_y hs (Y_assign rfl ?_)
      refine O_nil (T_sub [(6, _), (8, _), (25, _), (26, _), (27, _)] ⟨rfl, rfl, rfl, rfl, rfl, trivial⟩ ?_)
      refine T_region rfl ?_
      refine O_y hs (Y_move rfl ?_)
      refine O_y hs (Y_move rfl ?_)
      refine O_s (S_append hs Try.underlying23 TI5 rfl (by decide) rfl rfl (hu29) (byteV_one) (by have := flat_le l k (by omega); omega) (by have := flat_le l k (by omega); omega) fun v2 _ hs => ?_)
      refine O_y hs (Y_assign rfl ?_)
      refine O_nil (T_sub [(6, _), (25, _), (26, _), (27, _)] ⟨rfl, rfl, rfl, rfl, trivial⟩ ?_)
      refine T_region rfl ?_
      refine O_y hs (Y_add (c := ((k + 1 : Nat) : Int)) rfl rfl (by omega) (by omega) ?_)
      refine O_y hs (Y_move rfl ?_)
      refine O_nil ⟨_, ?_, [(6, _), (25, _), (26, _), (27, _)], ⟨rfl, rfl, rfl, rfl, trivial⟩, ⟨k + 1, _, by omega, rfl, rfl, by rw [flat_succ l k (by omega), List.length_append, List.map_append]; exact hs⟩⟩
      omega
    · -- h28: False
      dsimp only [cmpP] at h28
      refine O_nil (T_sub [(6, _), (25, _), (26, _), (27, _), (28, _)] ⟨rfl, rfl, rfl, rfl, rfl, trivial⟩ ?_)
      refine T_seq (T_condF rfl (T_exit ?_))
      refine T_seq (T_region rfl ?_)
      refine O_y hs (Y_move rfl ?_)
      refine O_y hs (Y_assign rfl ?_)
      refine O_nil (T_sub [(2, _)] ⟨rfl, trivial⟩ ?_)
      refine T_ret ?_
      refine Rt_fin (vs := [_]) Try.results31 rfl ⟨rfl, trivial⟩ ?_
      try dsimp only [tup]
      obtain rfl : k = l.length := by omega
      rw [List.take_length] at hs
      obtain ⟨G', hG, hf, hs3⟩ := hs.fixRow noM
      exact ⟨G', [], hs3, rfl, hf⟩

set_option maxHeartbeats 400000 in
set_option maxRecDepth 10000 in
theorem process_ok {b : Nat} {u : Value} {G : Ghost} {rest : List UInt8} {credit : Int} {fl : Bool} (hu : Bytes G u rest) (hl : rest.length ≤ 1000000) (hc : 0 ≤ credit) (hc' : credit ≤ 1073741824) (hfl : fl = false) :
    FnOk Try.prog 32 [.pointer (some ⟨b, 0, none⟩)] G [.blk b 28 [u, .int .i64 credit, .bool fl]] fun r G' H' => ∃ u', H' = [.blk b 28 [u', .int .i64 (proc rest.length rest credit).credit, .bool (proc rest.length rest credit).failed]] ∧ Bytes G' u' (proc rest.length rest credit).rest ∧ LBytes G' r (proc rest.length rest credit).msgs := by
  subst hfl
  refine FnOk.of_T [(0, _)] Try.func32 rfl Try.ntmps32 (by simp) rfl fun w0 hs => ?_
  refine T_seq (T_region rfl ?_)
  refine O_y hs (Y_assign rfl ?_)
  refine O_nil (T_sub [(0, _)] ⟨rfl, trivial⟩ ?_)
  refine T_scope (T_seq (T_region rfl ?_))
  refine O_y hs (Y_assign rfl ?_)
  refine O_nil (T_sub [(0, _), (3, _)] ⟨rfl, rfl, trivial⟩ ?_)
  refine T_seq (T_label ?_)
  have hs := hs.nilRow 23 1
  refine T_seq (T_block (T_loop (fun m E w => ∃ (f : Nat) (r' : List UInt8) (c' : Int) (A : Option Addr) (cp : Nat) (v3 : Value) (vs : List Value) (ms : List (List UInt8)) (G' : Ghost), r'.length ≤ f ∧ proc rest.length rest credit = (proc f r' c').pre ms ∧ LB G' vs ms ∧ Bytes G' (.slice A r'.length cp) r' ∧ 0 ≤ c' ∧ c' ≤ credit ∧ vs.length + r'.length ≤ rest.length ∧ m = r'.length ∧ E = ⟨[], [(0, .pointer (some ⟨b, 0, none⟩)), (3, v3)]⟩ ∧ St ⟨w0, G, feet [.blk b 28 [u, .int .i64 credit, .bool false]]⟩ G' [.row 23 1 v3 vs.length vs, .blk b 28 [.slice A r'.length cp, .int .i64 c', .bool false]] w) (L := [(0, _), (3, _)]) ⟨rfl, rfl, trivial⟩ (by obtain ⟨A, cp, rfl, _⟩ := id hu; exact ⟨_, _, _, _, _, _, [], [], _, Nat.le_refl _, rfl, LB.nil _, hu, hc, Int.le_refl _, by simp, rfl, rfl, hs⟩) fun m E w hI => ?_))
  obtain ⟨f, r', c', A, cp, v3, vs, ms, G', hf, hp, hvs, hr, hc1, hc2, hml, rfl, rfl, hs⟩ := hI
  refine T_seq (T_seq (T_region rfl ?_))
  refine O_y hs (Y_move rfl ?_)
  refine O_y hs (Y_nil rfl ?_)
  refine O_y hs (Y_fieldAddr FO28_0 rfl (m := 0) rfl ?_)
  refine O_y hs (Y_ld 1 Try.isAgg23 rfl rfl rfl ?_)
  refine O_y hs (Y_len Try.underlying23 rfl ?_)
  refine O_y hs (Y_cmpS rfl rfl rfl (fun h10 => ?_) (fun h10 => ?_))
  · -- h10: True
    dsimp only [cmpP] at h10
    refine O_nil (T_sub [(0, _), (3, _), (10, _)] ⟨rfl, rfl, rfl, trivial⟩ ?_)
    refine T_condT rfl (T_skip ?_)
    obtain ⟨a, b', t, rfl⟩ := two_le (show 2 ≤ r'.length by omega)
    have ha := a.toNat_lt
    have hb := b'.toNat_lt
    refine T_block (T_seq (T_drawS [0, 1, 2, 3, 4, 5, 6, 7, 8, 9, 10, 11, 12, 13, 14, 15, 16] hs (by kernel_rfl) ?_))
    replace hs := hs.drew
    refine A_take 0 rfl (by kernel_rfl) rfl hs (Y_move rfl ?_)
    refine A_take 1 rfl (by kernel_rfl) rfl hs (Y_nil rfl ?_)
    refine A_take 2 rfl (by kernel_rfl) rfl hs (Y_fieldAddr FO28_0 rfl (m := 0) rfl ?_)
    refine A_take 3 rfl (by kernel_rfl) rfl hs (Y_ld 1 Try.isAgg23 rfl rfl rfl ?_)
    refine A_take 4 rfl (by kernel_rfl) rfl hs (Y_idxB hr 0 Try.underlying23 Try.sizeOf5 rfl rfl rfl (by simp) fun p15 hp15 => ?_)
    refine A_take 5 rfl (by kernel_rfl) rfl hs (Y_ldG Try.isAgg5 rfl hp15 ?_)
    refine A_take 6 rfl (by kernel_rfl) rfl hs (Y_conv Try.underlying5 Try.underlying3 (c := (a.toNat : Int)) rfl (wrap64_byte a) ?_)
    refine A_take 7 rfl (by kernel_rfl) rfl hs (Y_shl rfl rfl (by omega) (shl8 a) ?_)
    refine A_take 8 rfl (by kernel_rfl) rfl hs (Y_move rfl ?_)
    refine A_take 9 rfl (by kernel_rfl) rfl hs (Y_nil rfl ?_)
    refine A_take 10 rfl (by kernel_rfl) rfl hs (Y_fieldAddr FO28_0 rfl (m := 0) rfl ?_)
    refine A_take 11 rfl (by kernel_rfl) rfl hs (Y_ld 1 Try.isAgg23 rfl rfl rfl ?_)
    refine A_take 12 rfl (by kernel_rfl) rfl hs (Y_idxB hr 1 Try.underlying23 Try.sizeOf5 rfl rfl rfl (by simp) fun p23 hp23 => ?_)
    refine A_take 13 rfl (by kernel_rfl) rfl hs (Y_ldG Try.isAgg5 rfl hp23 ?_)
    refine A_take 14 rfl (by kernel_rfl) rfl hs (Y_conv Try.underlying5 Try.underlying3 (c := (b'.toNat : Int)) rfl (wrap64_byte b') ?_)
    refine A_take 15 rfl (by kernel_rfl) rfl hs (Y_bits rfl rfl (by simp) (or_byte a b') ?_)
    refine A_take 16 rfl (by kernel_rfl) rfl hs (Y_assign rfl ?_)
    refine A_done (by kernel_rfl) (T_sub [(0, _), (3, _), (4, _)] ⟨rfl, rfl, rfl, trivial⟩ ?_)
    refine T_block (T_seq (T_region rfl ?_))
    refine O_y hs (Y_move rfl ?_)
    refine O_y hs (Y_cmpS rfl rfl rfl (fun h57 => ?_) (fun h57 => ?_))
    · -- h57: True
      dsimp only [cmpP] at h57
      refine O_y hs (Y_assign rfl ?_)
      refine O_nil (T_sub [(0, _), (3, _), (4, _), (55, _)] ⟨rfl, rfl, rfl, rfl, trivial⟩ ?_)
      refine T_condT rfl (T_seq (T_region rfl ?_))
      refine O_y hs (Y_move rfl ?_)
      refine O_y hs (Y_move rfl ?_)
      refine O_y hs (Y_nil rfl ?_)
      refine O_y hs (Y_fieldAddr FO28_0 rfl (m := 0) rfl ?_)
      have hs := hs.front 1 rfl (H' := [_, _]) rfl
      refine O_n (S_st hs Try.sizeOf23 rfl rfl rfl (by simp) (cs' := [_, _, _]) rfl fun _ hs => ?_)
      refine O_y hs (Y_nil rfl ?_)
      refine O_y hs (Y_fieldAddr FO28_2 rfl (m := 2) rfl ?_)
      refine O_n (S_st hs Try.sizeOf4 rfl rfl rfl (by simp) (cs' := [_, _, _]) rfl fun _ hs => ?_)
      refine O_nil (T_sub [(3, _)] ⟨rfl, trivial⟩ ?_)
      refine T_exit ?_
      refine T_seq (T_region rfl ?_)
      refine O_y hs (Y_move rfl ?_)
      refine O_y hs (Y_assign rfl ?_)
      refine O_nil (T_sub [(2, _)] ⟨rfl, trivial⟩ ?_)
      refine T_ret ?_
      have hs := hs.front 1 rfl (H' := [_, _]) rfl
      refine Rt_fin (vs := [_]) Try.results32 rfl ⟨rfl, trivial⟩ ?_
      try dsimp only [tup]
      rw [hp, proc_big (by simp only [List.length_cons] at hf; omega) (by omega)]
      obtain ⟨G', hG, hf2, hs3⟩ := hs.fixRow (noMi 0 hs rfl)
      exact ⟨G', _, hs3, _, rfl, Sl.nil _ _, LBytes.cast (by simp [Pr.pre]) (LBytes.of hf2 (hvs.mono hG))⟩
    · -- h57: False
      dsimp only [cmpP] at h57
      refine O_y hs (Y_assign rfl ?_)
      refine O_nil (T_sub [(0, _), (3, _), (4, _), (55, _)] ⟨rfl, rfl, rfl, rfl, trivial⟩ ?_)
      refine T_condF rfl (T_seq (T_region rfl ?_))
      refine O_y hs (Y_move rfl ?_)
      refine O_y hs (Y_cmpS rfl rfl rfl (fun h66 => ?_) (fun h66 => ?_))
      · -- h66: True
        dsimp only [cmpP] at h66
        refine O_y hs (Y_assign rfl ?_)
        refine O_nil (T_sub [(0, _), (3, _), (4, _), (64, _)] ⟨rfl, rfl, rfl, rfl, trivial⟩ ?_)
        refine T_condT rfl (T_region rfl ?_)
        refine O_y hs (Y_move rfl ?_)
        refine O_y hs (Y_move rfl ?_)
        refine O_y hs (Y_nil rfl ?_)
        refine O_y hs (Y_fieldAddr FO28_0 rfl (m := 0) rfl ?_)
        refine O_y hs (Y_ld 1 Try.isAgg23 rfl rfl rfl ?_)
        refine O_y hs (Y_sliceB hr 2 (a :: b' :: t).length Try.underlying23 Try.sizeOf5 rfl ⟨_, _, rfl, rfl⟩ rfl (by simp) (by omega) fun s72 hs72 => ?_)
        obtain ⟨A72, c72, rfl, _⟩ := id hs72
        refine O_y hs (Y_nil rfl ?_)
        refine O_y hs (Y_fieldAddr FO28_0 rfl (m := 0) rfl ?_)
        have hs := hs.front 1 rfl (H' := [_, _]) rfl
        refine O_n (S_st hs Try.sizeOf23 rfl rfl rfl (by simp) (cs' := [_, _, _]) rfl fun _ hs => ?_)
        have hs := hs.front 1 rfl (H' := [_, _]) rfl
        obtain ⟨f, rfl⟩ : ∃ q, f = q + 1 := ⟨f - 1, by simp only [List.length_cons] at hf; omega⟩
        refine O_nil ⟨_, ?_, [(0, _), (3, _)], ⟨rfl, rfl, trivial⟩, ⟨f, _, c', _, _, v3, vs, ms, _, by rw [List.length_take, List.length_drop]; simp only [List.length_cons] at hf ⊢; omega, by rw [hp, proc_zero (by omega)]; exact congrArg (fun q => (proc f q c').pre ms) (by simp), hvs, hs72, hc1, hc2, by rw [List.length_take, List.length_drop]; simp only [List.length_cons] at hml ⊢; omega, rfl, rfl, hs⟩⟩
        first | (simp only [List.length_cons]; omega) | (rw [List.length_take, List.length_drop]; simp only [List.length_cons]; omega)
      · -- h66: False
        dsimp only [cmpP] at h66
        refine O_y hs (Y_assign rfl ?_)
        refine O_nil (T_sub [(0, _), (3, _), (4, _), (64, _)] ⟨rfl, rfl, rfl, rfl, trivial⟩ ?_)
        refine T_condF rfl (T_seq (T_region rfl ?_))
        refine O_y hs (Y_move rfl ?_)
        refine O_y hs (Y_nil rfl ?_)
        refine O_y hs (Y_fieldAddr FO28_0 rfl (m := 0) rfl ?_)
        refine O_y hs (Y_ld 1 Try.isAgg23 rfl rfl rfl ?_)
        refine O_y hs (Y_len Try.underlying23 rfl ?_)
        refine O_y hs (Y_move rfl ?_)
        refine O_y hs (Y_add (c := ((256 * a.toNat + b'.toNat + 2 : Nat) : Int)) rfl rfl (by omega) (by omega) ?_)
        refine O_y hs (Y_cmpS rfl rfl rfl (fun h83 => ?_) (fun h83 => ?_))
        · -- h83: True
          dsimp only [cmpP] at h83
          refine O_y hs (Y_move rfl ?_)
          refine O_no 84 rfl rfl ?_
          refine O_no 84 rfl rfl ?_
          refine O_no 84 rfl rfl ?_
          refine O_no 84 rfl rfl ?_
          refine O_no 84 rfl rfl ?_
          refine O_y hs (Y_pickT rfl rfl ?_)
          refine O_y hs (Y_assign rfl ?_)
          refine O_nil (T_sub [(0, _), (3, _), (4, _), (75, _)] ⟨rfl, rfl, rfl, rfl, trivial⟩ ?_)
          refine T_condT rfl (T_exit ?_)
          refine T_seq (T_region rfl ?_)
          refine O_y hs (Y_move rfl ?_)
          refine O_y hs (Y_assign rfl ?_)
          refine O_nil (T_sub [(2, _)] ⟨rfl, trivial⟩ ?_)
          refine T_ret ?_
          refine Rt_fin (vs := [_]) Try.results32 rfl ⟨rfl, trivial⟩ ?_
          try dsimp only [tup]
          rw [hp, proc_wait (by simp only [List.length_cons] at hf; omega) (by omega) (by omega) (by simp only [List.length_cons] at h83; omega)]
          obtain ⟨G', hG, hf2, hs3⟩ := hs.fixRow (noMi 0 hs rfl)
          exact ⟨G', _, hs3, _, rfl, hr.mono hG, LBytes.cast (by simp [Pr.pre]) (LBytes.of hf2 (hvs.mono hG))⟩
        · -- h83: False
          dsimp only [cmpP] at h83
          refine O_y hs (Y_move rfl ?_)
          refine O_yy 84 hs rfl rfl (Y_move rfl ?_)
          refine O_yy 84 hs rfl rfl (Y_nil rfl ?_)
          refine O_yy 84 hs rfl rfl (Y_fieldAddr FO28_1 rfl (m := 1) rfl ?_)
          refine O_yy 84 hs rfl rfl (Y_ld 1 Try.isAgg3 rfl rfl rfl ?_)
          refine O_yy 84 hs rfl rfl (Y_cmpS rfl rfl rfl (fun h89 => ?_) (fun h89 => ?_))
          · -- h89: True
            dsimp only [cmpP] at h89
            refine O_y hs (Y_pickF rfl rfl ?_)
            refine O_y hs (Y_assign rfl ?_)
            refine O_nil (T_sub [(0, _), (3, _), (4, _), (75, _)] ⟨rfl, rfl, rfl, rfl, trivial⟩ ?_)
            refine T_condT rfl (T_exit ?_)
            refine T_seq (T_region rfl ?_)
            refine O_y hs (Y_move rfl ?_)
            refine O_y hs (Y_assign rfl ?_)
            refine O_nil (T_sub [(2, _)] ⟨rfl, trivial⟩ ?_)
            refine T_ret ?_
            refine Rt_fin (vs := [_]) Try.results32 rfl ⟨rfl, trivial⟩ ?_
            try dsimp only [tup]
            rw [hp, proc_wait (by simp only [List.length_cons] at hf; omega) (by omega) (by omega) (by simp only [List.length_cons] at h83; omega)]
            obtain ⟨G', hG, hf2, hs3⟩ := hs.fixRow (noMi 0 hs rfl)
            exact ⟨G', _, hs3, _, rfl, hr.mono hG, LBytes.cast (by simp [Pr.pre]) (LBytes.of hf2 (hvs.mono hG))⟩
          · -- h89: False
            dsimp only [cmpP] at h89
            refine O_y hs (Y_pickF rfl rfl ?_)
            refine O_y hs (Y_assign rfl ?_)
            refine O_nil (T_sub [(0, _), (3, _), (4, _), (75, _)] ⟨rfl, rfl, rfl, rfl, trivial⟩ ?_)
            refine T_condF rfl (T_seq (T_region rfl ?_))
            refine O_y hs (Y_move rfl ?_)
            refine O_y hs (Y_move rfl ?_)
            refine O_y hs (Y_nil rfl ?_)
            refine O_y hs (Y_fieldAddr FO28_0 rfl (m := 0) rfl ?_)
            refine O_y hs (Y_ld 1 Try.isAgg23 rfl rfl rfl ?_)
            refine O_y hs (Y_move rfl ?_)
            refine O_y hs (Y_add (c := ((256 * a.toNat + b'.toNat + 2 : Nat) : Int)) rfl rfl (by omega) (by omega) ?_)
            refine O_y hs (Y_sliceB hr 2 (256 * a.toNat + b'.toNat + 2) Try.underlying23 Try.sizeOf5 rfl ⟨_, _, rfl, rfl⟩ ⟨_, _, rfl, rfl⟩ (by omega) (by simp only [List.length_cons] at h83 ⊢; omega) fun s34 hs34 => ?_)
            obtain ⟨A34, c34, rfl, _⟩ := id hs34
            refine O_s (S_call (H1 := []) hs rfl Try.func30 rfl (by kernel_rfl) (clone_ok hs34 (by rw [List.length_take, List.length_drop]; simp only [List.length_cons] at hml ⊢; omega)) fun v1 G' H' _ hR hG35 hs => ?_)
            obtain ⟨rfl, hcl⟩ := hR
            obtain ⟨A35, c35, rfl, _⟩ := id hcl
            replace hs : St _ _ [_, _] _ := hs
            replace hvs := hvs.mono hG35
            replace hr := hr.mono hG35
            replace hs34 := hs34.mono hG35
            refine O_s (S_lit hs Try.underlying22 Try.sizeOf23 Try.zeroValue23 rfl rfl (by decide) (by decide) rfl (cs := [_]) rfl rfl fun v2 _ hs _ => ?_)
            obtain ⟨_, hG36, hl36, hs⟩ := hs.fixRow (noMi 1 hs rfl)
            replace hvs := hvs.mono hG36
            replace hr := hr.mono hG36
            replace hs34 := hs34.mono hG36
            replace hcl := hcl.mono hG36
            refine O_s (S_append hs Try.underlying22 TI23 rfl (by decide) rfl rfl (hl36) (one1 rfl) (by simp only [List.length_cons] at hml; omega) (by simp only [List.length_cons] at hml; omega) fun v3 _ hs => ?_)
            refine O_y hs (Y_assign rfl ?_)
            refine O_nil (T_sub [(0, _), (3, _), (4, _)] ⟨rfl, rfl, rfl, trivial⟩ ?_)
            refine T_seq (T_region rfl ?_)
            refine O_y hs (Y_move rfl ?_)
            refine O_y hs (Y_move rfl ?_)
            refine O_y hs (Y_nil rfl ?_)
            refine O_y hs (Y_fieldAddr FO28_0 rfl (m := 0) rfl ?_)
            refine O_y hs (Y_ld 1 Try.isAgg23 rfl rfl rfl ?_)
            refine O_y hs (Y_move rfl ?_)
            refine O_y hs (Y_add (c := ((256 * a.toNat + b'.toNat + 2 : Nat) : Int)) rfl rfl (by omega) (by omega) ?_)
            refine O_y hs (Y_sliceB hr (256 * a.toNat + b'.toNat + 2) (a :: b' :: t).length Try.underlying23 Try.sizeOf5 rfl ⟨_, _, rfl, rfl⟩ rfl (by simp only [List.length_cons] at h83 ⊢; omega) (by omega) fun s45 hs45 => ?_)
            obtain ⟨A45, c45, rfl, _⟩ := id hs45
            refine O_y hs (Y_nil rfl ?_)
            refine O_y hs (Y_fieldAddr FO28_0 rfl (m := 0) rfl ?_)
            have hs := hs.front 1 rfl (H' := [_, _]) rfl
            refine O_n (S_st hs Try.sizeOf23 rfl rfl rfl (by simp) (cs' := [_, _, _]) rfl fun _ hs => ?_)
            refine O_nil (T_sub [(0, _), (3, _)] ⟨rfl, rfl, trivial⟩ ?_)
            refine T_region rfl ?_
            refine O_y hs (Y_move rfl ?_)
            refine O_y hs (Y_nil rfl ?_)
            refine O_y hs (Y_fieldAddr FO28_1 rfl (m := 1) rfl ?_)
            refine O_y hs (Y_ld 0 Try.isAgg3 rfl rfl rfl ?_)
            refine O_y hs (Y_sub (c := c' - 1) rfl rfl (by omega) (by omega) ?_)
            refine O_y hs (Y_nil rfl ?_)
            refine O_y hs (Y_fieldAddr FO28_1 rfl (m := 1) rfl ?_)
            refine O_n (S_st hs Try.sizeOf3 rfl rfl rfl (by simp) (cs' := [_, _, _]) rfl fun _ hs => ?_)
            have hs := hs.front 1 rfl (H' := [_, _]) rfl
            obtain ⟨f, rfl⟩ : ∃ q, f = q + 1 := ⟨f - 1, by simp only [List.length_cons] at hf; omega⟩
            refine O_nil ⟨_, ?_, [(0, _), (3, _)], ⟨rfl, rfl, trivial⟩, ⟨f, _, c' - 1, _, _, _, vs ++ [_], ms ++ [_], _, by rw [List.length_take, List.length_drop]; simp only [List.length_cons] at hf ⊢; omega, by rw [hp, proc_take ms (by omega) (by omega) (by simp only [List.length_cons] at h83; omega)]; rw [← dt a b' t, ← tk a b' t], hvs.snoc hcl, hs45, by omega, by omega, by simp only [List.length_append, List.length_take, List.length_drop, List.length_cons, List.length_nil] at hml ⊢; omega, rfl, rfl, by rw [List.length_append]; exact hs⟩⟩
            first | (simp only [List.length_cons]; omega) | (rw [List.length_take, List.length_drop]; simp only [List.length_cons]; omega)
  · -- h10: False
    dsimp only [cmpP] at h10
    refine O_nil (T_sub [(0, _), (3, _), (10, _)] ⟨rfl, rfl, rfl, trivial⟩ ?_)
    refine T_condF rfl (T_exit ?_)
    refine T_seq (T_region rfl ?_)
    refine O_y hs (Y_move rfl ?_)
    refine O_y hs (Y_assign rfl ?_)
    refine O_nil (T_sub [(2, _)] ⟨rfl, trivial⟩ ?_)
    refine T_ret ?_
    refine Rt_fin (vs := [_]) Try.results32 rfl ⟨rfl, trivial⟩ ?_
    try dsimp only [tup]
    rw [hp, proc_short (by omega)]
    obtain ⟨G', hG, hf2, hs3⟩ := hs.fixRow (noMi 0 hs rfl)
    exact ⟨G', _, hs3, _, rfl, hr.mono hG, LBytes.cast (by simp [Pr.pre]) (LBytes.of hf2 (hvs.mono hG))⟩

set_option maxHeartbeats 400000 in
set_option maxRecDepth 10000 in
theorem feed_ok {v v2 : Value} {G : Ghost} {d : Dec} {b : List UInt8} (hd : DecR G v d) (hb : Bytes G v2 b) (hl : b.length ≤ 100000) :
    FnOk Try.prog 13 [v, v2] G [] fun r G' H' => H' = [] ∧ ∃ dv mv, r = .tuple #[dv, mv, .int .i64 (feedF d b).2.2] ∧ DecR G' dv (feedF d b).1 ∧ LBytes G' mv (feedF d b).2.1 := by
  obtain ⟨u, rfl, hu⟩ := hd
  obtain ⟨A, cap, rfl, hu'⟩ := id hu
  obtain ⟨A2, c2, rfl, hb'⟩ := id hb
  refine FnOk.of_T [(0, _), (1, _)] Try.func13 rfl Try.ntmps13 (by simp) rfl fun w0 hs => ?_
  have hu0 := hu
  have hb0 := hb
  refine T_seq (T_region rfl ?_)
  refine O_s (S_box hs rfl (cs := [_, _, _]) rfl fun b2 _ hs => ?_)
  refine O_s (S_alloc hs Try.zeroValue28 (cs := [_, _, _]) rfl fun b4 _ hs => ?_)
  refine O_y hs (Y_assign rfl ?_)
  refine O_y hs (Y_assign rfl ?_)
  refine O_nil (T_sub [(1, _), (2, _), (4, _)] ⟨rfl, rfl, rfl, trivial⟩ ?_)
  refine T_seq (T_seq (T_region rfl ?_))
  refine O_y hs (Y_ldA 1 Try.isAgg28 Try.sizeOf28 rfl rfl (vs := [_, _, _]) rfl rfl ?_)
  refine O_s (S_call (H1 := []) hs rfl Try.func29 rfl (by kernel_rfl) (valid_ok (d := d) ⟨_, rfl, hu⟩) fun v1 G' H' _ hR hG10 hs => ?_)
  obtain ⟨rfl, rfl⟩ := hR
  replace hs : St _ _ [_, _] _ := hs
  replace hu := hu.mono hG10
  replace hb := hb.mono hG10
  cases hv : validB d
  · -- hv: False
    refine O_y hs (Y_not rfl ?_)
    refine O_nil (T_sub [(1, _), (2, _), (4, _), (11, _)] ⟨rfl, rfl, rfl, rfl, trivial⟩ ?_)
    refine T_condT rfl (T_seq (T_region rfl ?_))
    refine O_y hs (Y_build Try.zeroValue28 rfl PL28 rfl (cs := [_, _, _]) rfl ?_)
    refine O_n (S_stA hs Try.sizeOf28 rfl rfl (vs := [_, _, _]) rfl rfl (by simp) (cs' := [_, _, _]) rfl fun _ hs => ?_)
    refine O_y hs (Y_assign rfl ?_)
    refine O_y hs (Y_assign rfl ?_)
    refine O_nil (T_sub [(4, _), (5, _), (6, _)] ⟨rfl, rfl, rfl, trivial⟩ ?_)
    refine T_ret ?_
    have hr := hs
    refine Rt_fin (vs := [_, _, _]) Try.results13 rfl ⟨ResOk_blk 0 hr Try.isAgg28 Try.sizeOf28 rfl (cs := [_, _, _]) rfl rfl, rfl, rfl, trivial⟩ ?_
    try dsimp only [tup]
    rw [feedF_bad hv]
    exact ⟨_, [], hs.done, rfl, _, _, rfl, ⟨_, rfl, Sl.nil _ _⟩, LBytes.nil _⟩
  · -- hv: True
    have hv' := validB_iff.1 hv
    refine O_y hs (Y_not rfl ?_)
    refine O_nil (T_sub [(1, _), (2, _), (4, _), (11, _)] ⟨rfl, rfl, rfl, rfl, trivial⟩ ?_)
    refine T_condF rfl (T_skip ?_)
    refine T_seq (T_region rfl ?_)
    refine O_y hs (Y_fieldAddr FO28_0 rfl (m := 0) rfl ?_)
    refine O_y hs (Y_ld 1 Try.isAgg23 rfl rfl rfl ?_)
    refine O_s (S_call (H1 := []) hs rfl Try.func30 rfl (by kernel_rfl) (clone_ok hu (by omega)) fun v2 G' H' _ hR hG15 hs => ?_)
    obtain ⟨rfl, hcl⟩ := hR
    obtain ⟨A15, c15, rfl, _⟩ := id hcl
    replace hs : St _ _ [_, _] _ := hs
    replace hu := hu.mono hG15
    replace hb := hb.mono hG15
    refine O_y hs (Y_fieldAddr FO28_0 rfl (m := 0) rfl ?_)
    have hs := hs.front 1 rfl (H' := [_, _]) rfl
    refine O_n (S_st hs Try.sizeOf23 rfl rfl rfl (by simp) (cs' := [_, _, _]) rfl fun _ hs => ?_)
    refine O_nil (T_sub [(1, _), (2, _), (4, _)] ⟨rfl, rfl, rfl, trivial⟩ ?_)
    refine T_seq (T_seq (T_region rfl ?_))
    refine O_y hs (Y_fieldAddr FO28_2 rfl (m := 2) rfl ?_)
    refine O_y hs (Y_ld 0 Try.isAgg4 rfl rfl rfl ?_)
    refine O_nil (T_sub [(1, _), (2, _), (4, _), (18, _)] ⟨rfl, rfl, rfl, rfl, trivial⟩ ?_)
    refine T_condS rfl (fun hdf => ?_) (fun hdf => ?_)
    · -- True
      refine T_seq (T_region rfl ?_)
      refine O_y hs (Y_ldA 0 Try.isAgg28 Try.sizeOf28 rfl rfl (vs := [_, _, _]) rfl rfl ?_)
      have hs := hs.front 1 rfl (H' := [_, _]) rfl
      refine O_n (S_stA hs Try.sizeOf28 rfl rfl (vs := [_, _, _]) rfl rfl (by simp) (cs' := [_, _, _]) rfl fun _ hs => ?_)
      refine O_y hs (Y_assign rfl ?_)
      refine O_y hs (Y_assign rfl ?_)
      refine O_nil (T_sub [(4, _), (5, _), (6, _)] ⟨rfl, rfl, rfl, trivial⟩ ?_)
      refine T_ret ?_
      have hr := hs
      refine Rt_fin (vs := [_, _, _]) Try.results13 rfl ⟨ResOk_blk 0 hr Try.isAgg28 Try.sizeOf28 rfl (cs := [_, _, _]) rfl rfl, rfl, rfl, trivial⟩ ?_
      try dsimp only [tup]
      rw [feedF_failed hv hdf]
      exact ⟨_, [], hs.done, rfl, _, _, rfl, ⟨_, rfl, hcl⟩, LBytes.nil _⟩
    · -- False
      refine T_skip ?_
      refine T_seq (T_region rfl ?_)
      refine O_y hs (Y_ldA 0 Try.isAgg28 Try.sizeOf28 rfl rfl (vs := [_, _, _]) rfl rfl ?_)
      refine O_s (S_alloc hs Try.zeroValue28 (cs := [_, _, _]) rfl fun b7 _ hs => ?_)
      refine O_n (S_stA hs Try.sizeOf28 rfl rfl (vs := [_, _, _]) rfl rfl (by simp) (cs' := [_, _, _]) rfl fun _ hs => ?_)
      refine O_nil (T_sub [(1, _), (2, _), (4, _), (7, _)] ⟨rfl, rfl, rfl, rfl, trivial⟩ ?_)
      refine T_seq (T_region rfl ?_)
      refine O_y hs (Y_fieldAddr FO28_0 rfl (m := 0) rfl ?_)
      refine O_y hs (Y_ld 1 Try.isAgg23 rfl rfl rfl ?_)
      refine O_y hs (Y_move rfl ?_)
      refine O_s (S_lit hs Try.underlying22 Try.sizeOf23 Try.zeroValue23 rfl rfl (by decide) (by decide) rfl (cs := [_, _]) rfl rfl fun v3 _ hs _ => ?_)
      obtain ⟨_, hG24, hl24, hs⟩ := hs.fixRow noM
      replace hu := hu.mono hG24
      replace hb := hb.mono hG24
      replace hcl := hcl.mono hG24
      refine O_s (S_call (H1 := []) hs rfl Try.func31 rfl (by kernel_rfl) (concat_ok (l := [d.rest, b]) (LBytes.of (vs := [_, _]) hl24 ⟨hcl, hb, trivial⟩) (by simp) (by simp; omega)) fun v4 G' H' _ hR hG25 hs => ?_)
      obtain ⟨rfl, hcc⟩ := hR
      obtain ⟨A25, c25, rfl, _⟩ := id hcc
      replace hs : St _ _ [_, _, _] _ := hs
      replace hu := hu.mono hG25
      replace hb := hb.mono hG25
      replace hcl := hcl.mono hG25
      refine O_y hs (Y_fieldAddr FO28_0 rfl (m := 0) rfl ?_)
      refine O_n (S_st hs Try.sizeOf23 rfl rfl rfl (by simp) (cs' := [_, _, _]) rfl fun _ hs => ?_)
      refine O_nil (T_sub [(2, _), (4, _), (7, _)] ⟨rfl, rfl, rfl, trivial⟩ ?_)
      refine T_seq (T_region rfl ?_)
      refine O_s (S_call (H1 := [_]) hs rfl Try.func32 rfl (by kernel_rfl) (process_ok (rest := d.rest ++ b) (Bytes.cast (by simp) hcc) (by simp; omega) hv'.2.1 hv'.2.2 hdf) fun v5 G' H' _ hR hG27 hs => ?_)
      obtain ⟨u', rfl, hur, hms⟩ := hR
      replace hs : St _ _ [_, _, _] _ := hs
      replace hu := hu.mono hG27
      replace hb := hb.mono hG27
      replace hcl := hcl.mono hG27
      replace hcc := hcc.mono hG27
      refine O_y hs (Y_assign rfl ?_)
      refine O_nil (T_sub [(2, _), (4, _), (7, _), (8, _)] ⟨rfl, rfl, rfl, rfl, trivial⟩ ?_)
      refine T_seq (T_region rfl ?_)
      refine O_y hs (Y_fieldAddr FO28_0 rfl (m := 0) rfl ?_)
      refine O_y hs (Y_ld 0 Try.isAgg23 rfl rfl rfl ?_)
      refine O_s (S_call (H1 := []) hs rfl Try.func30 rfl (by kernel_rfl) (clone_ok hur (by have := proc_rest_le (d.rest ++ b).length (d.rest ++ b) d.credit; simp at this ⊢; omega)) fun v6 G' H' _ hR hG30 hs => ?_)
      obtain ⟨rfl, hcl2⟩ := hR
      obtain ⟨A30, c30, rfl, _⟩ := id hcl2
      replace hs : St _ _ [_, _, _] _ := hs
      replace hu := hu.mono hG30
      replace hb := hb.mono hG30
      replace hcl := hcl.mono hG30
      replace hcc := hcc.mono hG30
      replace hur := hur.mono hG30
      replace hms := hms.mono hG30
      refine O_y hs (Y_fieldAddr FO28_0 rfl (m := 0) rfl ?_)
      refine O_n (S_st hs Try.sizeOf23 rfl rfl rfl (by simp) (cs' := [_, _, _]) rfl fun _ hs => ?_)
      refine O_nil (T_sub [(2, _), (4, _), (7, _), (8, _)] ⟨rfl, rfl, rfl, rfl, trivial⟩ ?_)
      refine T_seq (T_block (T_seq (T_region rfl ?_)))
      refine O_y hs (Y_fieldAddr FO28_2 rfl (m := 2) rfl ?_)
      refine O_y hs (Y_ld 0 Try.isAgg4 rfl rfl rfl ?_)
      refine O_y hs (Y_assign rfl ?_)
      refine O_nil (T_sub [(2, _), (4, _), (7, _), (8, _), (32, _)] ⟨rfl, rfl, rfl, rfl, rfl, trivial⟩ ?_)
      refine T_condS rfl (fun hpf => ?_) (fun hpf => ?_)
      · -- True
        refine T_seq (T_region rfl ?_)
        refine O_y hs (Y_ldA 0 Try.isAgg28 Try.sizeOf28 rfl rfl (vs := [_, _, _]) rfl rfl ?_)
        refine O_y hs (Y_move rfl ?_)
        have hs := hs.front 2 rfl (H' := [_, _, _]) rfl
        refine O_n (S_stA hs Try.sizeOf28 rfl rfl (vs := [_, _, _]) rfl rfl (by simp) (cs' := [_, _, _]) rfl fun _ hs => ?_)
        refine O_y hs (Y_assign rfl ?_)
        refine O_y hs (Y_assign rfl ?_)
        refine O_nil (T_sub [(4, _), (5, _), (6, _)] ⟨rfl, rfl, rfl, trivial⟩ ?_)
        refine T_ret ?_
        have hr := hs
        refine Rt_fin (vs := [_, _, _]) Try.results13 rfl ⟨ResOk_blk 0 hr Try.isAgg28 Try.sizeOf28 rfl (cs := [_, _, _]) rfl rfl, rfl, rfl, trivial⟩ ?_
        try dsimp only [tup]
        rw [feedF_form hv hdf hpf, ← hpf]
        exact ⟨_, [], hs.done, rfl, _, _, rfl, ⟨_, rfl, hcl2⟩, hms⟩
      · -- False
        refine T_seq (T_region rfl ?_)
        refine O_y hs (Y_fieldAddr FO28_0 rfl (m := 0) rfl ?_)
        refine O_y hs (Y_ld 0 Try.isAgg23 rfl rfl rfl ?_)
        refine O_y hs (Y_len Try.underlying23 rfl ?_)
        refine O_y hs (Y_cmpS rfl rfl rfl (fun h41 => ?_) (fun h41 => ?_))
        · -- h41: True
          dsimp only [cmpP] at h41
          refine O_y hs (Y_assign rfl ?_)
          refine O_nil (T_sub [(2, _), (4, _), (7, _), (8, _), (37, _)] ⟨rfl, rfl, rfl, rfl, rfl, trivial⟩ ?_)
          refine T_condT rfl (T_seq (T_region rfl ?_))
          refine O_y hs (Y_ldA 1 Try.isAgg28 Try.sizeOf28 rfl rfl (vs := [_, _, _]) rfl rfl ?_)
          have hs := hs.front 2 rfl (H' := [_, _, _]) rfl
          refine O_n (S_stA hs Try.sizeOf28 rfl rfl (vs := [_, _, _]) rfl rfl (by simp) (cs' := [_, _, _]) rfl fun _ hs => ?_)
          refine O_y hs (Y_assign rfl ?_)
          refine O_y hs (Y_assign rfl ?_)
          refine O_nil (T_sub [(4, _), (5, _), (6, _)] ⟨rfl, rfl, rfl, trivial⟩ ?_)
          refine T_ret ?_
          have hr := hs
          refine Rt_fin (vs := [_, _, _]) Try.results13 rfl ⟨ResOk_blk 0 hr Try.isAgg28 Try.sizeOf28 rfl (cs := [_, _, _]) rfl rfl, rfl, rfl, trivial⟩ ?_
          try dsimp only [tup]
          rw [feedF_full hv hdf hpf (by unfold prF; omega)]
          exact ⟨_, [], hs.done, rfl, _, _, rfl, ⟨_, rfl, hcl⟩, LBytes.nil _⟩
        · -- h41: False
          dsimp only [cmpP] at h41
          refine O_y hs (Y_assign rfl ?_)
          refine O_nil (T_sub [(2, _), (4, _), (7, _), (8, _), (37, _)] ⟨rfl, rfl, rfl, rfl, rfl, trivial⟩ ?_)
          refine T_condF rfl (T_skip ?_)
          refine T_seq (T_region rfl ?_)
          refine O_y hs (Y_ldA 0 Try.isAgg28 Try.sizeOf28 rfl rfl (vs := [_, _, _]) rfl rfl ?_)
          refine O_y hs (Y_move rfl ?_)
          have hs := hs.front 2 rfl (H' := [_, _, _]) rfl
          refine O_n (S_stA hs Try.sizeOf28 rfl rfl (vs := [_, _, _]) rfl rfl (by simp) (cs' := [_, _, _]) rfl fun _ hs => ?_)
          refine O_y hs (Y_assign rfl ?_)
          refine O_y hs (Y_assign rfl ?_)
          refine O_nil (T_sub [(4, _), (5, _), (6, _)] ⟨rfl, rfl, rfl, trivial⟩ ?_)
          refine T_ret ?_
          have hr := hs
          refine Rt_fin (vs := [_, _, _]) Try.results13 rfl ⟨ResOk_blk 0 hr Try.isAgg28 Try.sizeOf28 rfl (cs := [_, _, _]) rfl rfl, rfl, rfl, trivial⟩ ?_
          try dsimp only [tup]
          rw [feedF_ok hv hdf hpf (by unfold prF; omega), ← hpf]
          exact ⟨_, [], hs.done, rfl, _, _, rfl, ⟨_, rfl, hcl2⟩, hms⟩

set_option maxHeartbeats 400000 in
set_option maxRecDepth 10000 in
theorem feedR_ok {v v2 : Value} {G : Ghost} {d : Dec} {b : List UInt8} (hd : DecR G v d) (hb : Bytes G v2 b) (hl : b.length ≤ 100000) :
    FnOk Try.prog 14 [v, v2] G [] fun r G' H' => H' = [] ∧ ∃ dv mv, r = .tuple #[dv, mv, .int .i64 (feedF d b).2.2] ∧ DecR G' dv (feedF d b).1 ∧ LBytes G' mv (feedF d b).2.1 := by
  obtain ⟨u, rfl, hu⟩ := hd
  obtain ⟨A, cap, rfl, hu'⟩ := id hu
  obtain ⟨A2, c2, rfl, hb'⟩ := id hb
  refine FnOk.of_T [(0, _), (1, _)] Try.func14 rfl Try.ntmps14 (by simp) rfl fun w0 hs => ?_
  have hu0 := hu
  have hb0 := hb
  refine T_seq (T_region rfl ?_)
  refine O_s (S_box hs rfl (cs := [_, _, _]) rfl fun b2 _ hs => ?_)
  refine O_s (S_alloc hs Try.zeroValue28 (cs := [_, _, _]) rfl fun b4 _ hs => ?_)
  refine O_y hs (Y_assign rfl ?_)
  refine O_y hs (Y_assign rfl ?_)
  refine O_nil (T_sub [(1, _), (2, _), (4, _)] ⟨rfl, rfl, rfl, trivial⟩ ?_)
  refine T_seq (T_seq (T_region rfl ?_))
  refine O_y hs (Y_ldA 1 Try.isAgg28 Try.sizeOf28 rfl rfl (vs := [_, _, _]) rfl rfl ?_)
  refine O_s (S_call (H1 := []) hs rfl Try.func33 rfl (by kernel_rfl) (validR_ok (d := d) ⟨_, rfl, hu⟩) fun v1 G' H' _ hR hG14 hs => ?_)
  obtain ⟨rfl, rfl⟩ := hR
  replace hs : St _ _ [_, _] _ := hs
  replace hu := hu.mono hG14
  replace hb := hb.mono hG14
  cases hv : validB d
  · -- hv: False
    refine O_y hs (Y_not rfl ?_)
    refine O_nil (T_sub [(1, _), (2, _), (4, _), (15, _)] ⟨rfl, rfl, rfl, rfl, trivial⟩ ?_)
    refine T_condT rfl (T_seq (T_region rfl ?_))
    refine O_y hs (Y_build Try.zeroValue28 rfl PL28 rfl (cs := [_, _, _]) rfl ?_)
    refine O_n (S_stA hs Try.sizeOf28 rfl rfl (vs := [_, _, _]) rfl rfl (by simp) (cs' := [_, _, _]) rfl fun _ hs => ?_)
    refine O_y hs (Y_assign rfl ?_)
    refine O_y hs (Y_assign rfl ?_)
    refine O_nil (T_sub [(4, _), (5, _), (6, _)] ⟨rfl, rfl, rfl, trivial⟩ ?_)
    refine T_ret ?_
    have hr := hs
    refine Rt_fin (vs := [_, _, _]) Try.results14 rfl ⟨ResOk_blk 0 hr Try.isAgg28 Try.sizeOf28 rfl (cs := [_, _, _]) rfl rfl, rfl, rfl, trivial⟩ ?_
    try dsimp only [tup]
    rw [feedF_bad hv]
    exact ⟨_, [], hs.done, rfl, _, _, rfl, ⟨_, rfl, Sl.nil _ _⟩, LBytes.nil _⟩
  · -- hv: True
    have hv' := validB_iff.1 hv
    refine O_y hs (Y_not rfl ?_)
    refine O_nil (T_sub [(1, _), (2, _), (4, _), (15, _)] ⟨rfl, rfl, rfl, rfl, trivial⟩ ?_)
    refine T_condF rfl (T_skip ?_)
    refine T_seq (T_seq (T_region rfl ?_))
    refine O_y hs (Y_fieldAddr FO28_2 rfl (m := 2) rfl ?_)
    refine O_y hs (Y_ld 1 Try.isAgg4 rfl rfl rfl ?_)
    refine O_nil (T_sub [(1, _), (2, _), (4, _), (18, _)] ⟨rfl, rfl, rfl, rfl, trivial⟩ ?_)
    refine T_condS rfl (fun hdf => ?_) (fun hdf => ?_)
    · -- True
      refine T_seq (T_region rfl ?_)
      refine O_y hs (Y_ldA 1 Try.isAgg28 Try.sizeOf28 rfl rfl (vs := [_, _, _]) rfl rfl ?_)
      refine O_n (S_stA hs Try.sizeOf28 rfl rfl (vs := [_, _, _]) rfl rfl (by simp) (cs' := [_, _, _]) rfl fun _ hs => ?_)
      refine O_y hs (Y_assign rfl ?_)
      refine O_y hs (Y_assign rfl ?_)
      refine O_nil (T_sub [(4, _), (5, _), (6, _)] ⟨rfl, rfl, rfl, trivial⟩ ?_)
      refine T_ret ?_
      have hr := hs
      refine Rt_fin (vs := [_, _, _]) Try.results14 rfl ⟨ResOk_blk 0 hr Try.isAgg28 Try.sizeOf28 rfl (cs := [_, _, _]) rfl rfl, rfl, rfl, trivial⟩ ?_
      try dsimp only [tup]
      rw [feedF_failed hv hdf]
      exact ⟨_, [], hs.done, rfl, _, _, rfl, ⟨_, rfl, hu⟩, LBytes.nil _⟩
    · -- False
      refine T_skip ?_
      refine T_seq (T_region rfl ?_)
      refine O_y hs (Y_ldA 1 Try.isAgg28 Try.sizeOf28 rfl rfl (vs := [_, _, _]) rfl rfl ?_)
      refine O_s (S_lit hs Try.underlying22 Try.sizeOf23 Try.zeroValue23 rfl rfl (by decide) (by decide) rfl (cs := []) rfl rfl fun v2 _ hs _ => ?_)
      refine O_s (S_alloc hs Try.zeroValue28 (cs := [_, _, _]) rfl fun b7 _ hs => ?_)
      refine O_n (S_stA hs Try.sizeOf28 rfl rfl (vs := [_, _, _]) rfl rfl (by simp) (cs' := [_, _, _]) rfl fun _ hs => ?_)
      refine O_y hs (Y_assign rfl ?_)
      refine O_nil (T_sub [(1, _), (2, _), (4, _), (7, _), (8, _)] ⟨rfl, rfl, rfl, rfl, rfl, trivial⟩ ?_)
      refine T_seq (T_region rfl ?_)
      refine O_s (S_lit hs Try.underlying23 Try.sizeOf5 Try.zeroValue5 rfl rfl (by decide) (by decide) rfl (cs := []) rfl rfl fun v3 _ hs _ => ?_)
      refine O_y hs (Y_fieldAddr FO28_0 rfl (m := 0) rfl ?_)
      refine O_y hs (Y_ld 4 Try.isAgg23 rfl rfl rfl ?_)
      refine O_s (S_append hs Try.underlying23 TI5 rfl (by decide) rfl rfl (hu) (byteV_one) (by omega) (by omega) fun v4 _ hs => ?_)
      refine O_y hs (Y_fieldAddr FO28_0 rfl (m := 0) rfl ?_)
      have hs := hs.front 1 rfl (H' := [_, _, _, _, _]) rfl
      refine O_n (S_st hs Try.sizeOf23 rfl rfl (hs.rowOne 1 rfl) (by simp) (cs' := [_, _, _]) rfl fun _ hs => ?_)
      refine O_nil (T_sub [(1, _), (2, _), (4, _), (7, _), (8, _)] ⟨rfl, rfl, rfl, rfl, rfl, trivial⟩ ?_)
      refine T_seq (T_region rfl ?_)
      refine O_y hs (Y_fieldAddr FO28_0 rfl (m := 0) rfl ?_)
      refine O_y hs (Y_ld 0 Try.isAgg23 rfl rfl rfl ?_)
      refine O_y hs (Y_move rfl ?_)
      have hs := hs.front 1 rfl (H' := [_, _, _, _, _]) rfl
      refine O_s (S_append hs Try.underlying23 TI5 rfl (by decide) rfl rfl (hb) (byteV_one) (by omega) (by omega) fun v5 _ hs => ?_)
      refine O_y hs (Y_fieldAddr FO28_0 rfl (m := 0) rfl ?_)
      have hs := hs.front 1 rfl (H' := [_, _, _, _, _]) rfl
      refine O_n (S_st hs Try.sizeOf23 rfl rfl (hs.rowOne 1 rfl) (by simp) (cs' := [_, _, _]) rfl fun _ hs => ?_)
      refine O_nil (T_sub [(2, _), (4, _), (7, _), (8, _)] ⟨rfl, rfl, rfl, rfl, trivial⟩ ?_)
      refine T_seq (T_seq (T_region rfl ?_))
      refine O_y hs (Y_assign rfl ?_)
      refine O_nil (T_sub [(2, _), (4, _), (7, _), (8, _), (9, _)] ⟨rfl, rfl, rfl, rfl, rfl, trivial⟩ ?_)
      have hs := hs.front 1 rfl (H' := [_, _, _, _, _]) rfl
      obtain ⟨_, hG0, hrest, hs⟩ := hs.fixRow noM
      replace hu := hu.mono hG0
      replace hb := hb.mono hG0
      replace hrest := Bytes.ofSl (bs := d.rest ++ b) hrest (by simp) (by simp)
      have hs := hs.front 1 rfl (H' := [_, _, _, _]) rfl
      refine T_block (T_loop (fun m E w => ∃ (more : Bool) (d' : Dec) (f : Nat) (u7 v8 : Value) (vs : List Value) (ms : List (List UInt8)) (G' : Ghost), Run (d.rest ++ b) d.credit more d' ms f ∧ Bytes G' u7 d'.rest ∧ LB G' vs ms ∧ m = (if more then d'.rest.length + 1 else 0) ∧ E = ⟨[], [(2, .pointer (some ⟨b2, 0, none⟩)), (4, .pointer (some ⟨b4, 0, none⟩)), (7, .pointer (some ⟨b7, 0, none⟩)), (8, v8), (9, .bool more)]⟩ ∧ St ⟨w0, G, feet []⟩ G' [.row 23 1 v8 vs.length vs, .blk b7 28 [u7, .int .i64 d'.credit, .bool d'.failed], .blk b4 28 [.slice none 0 0, .int .i64 0, .bool false], .blk b2 28 [.slice A d.rest.length cap, .int .i64 d.credit, .bool d.failed]] w) (L := [(2, _), (4, _), (7, _), (8, _), (9, _)]) ⟨rfl, rfl, rfl, rfl, rfl, trivial⟩ (⟨true, ⟨d.rest ++ b, d.credit, d.failed⟩, _, _, _, [], [], _, Run.start hv' hdf, hrest, LB.nil _, rfl, rfl, hs⟩) fun m E w hI => ?_)
      obtain ⟨more, d', f, u7, v8, vs, ms, G', hrun, hrest, hvs, rfl, rfl, hs⟩ := hI
      have hu := hu0.mono hs.le
      have hb := hb0.mono hs.le
      have hdR : DecR G' (.agg #[u7, .int .i64 d'.credit, .bool d'.failed]) d' := ⟨_, rfl, hrest⟩
      obtain ⟨A7, c7, rfl, _⟩ := id hrest
      have hvl := All2.length hvs
      refine T_seq (T_seq (T_region rfl ?_))
      refine O_y hs (Y_move rfl ?_)
      refine O_nil (T_sub [(2, _), (4, _), (7, _), (8, _), (32, _)] ⟨rfl, rfl, rfl, rfl, rfl, trivial⟩ ?_)
      refine T_condS rfl (fun hmo => ?_) (fun hmo => ?_)
      · -- True
        subst hmo
        obtain ⟨f', hrun', hlt⟩ := hrun.step
        refine T_skip ?_
        refine T_block (T_seq (T_region rfl ?_))
        refine O_y hs (Y_ldA 1 Try.isAgg28 Try.sizeOf28 rfl rfl (vs := [_, _, _]) rfl rfl ?_)
        refine O_s (S_call (H1 := []) hs rfl Try.func34 rfl (by kernel_rfl) (step_ok hdR (by have := hrun.2.2.1; simp at this; omega) (by have := hrun.1; omega) hrun.2.1) fun v6 G' H' _ hR hG35 hs => ?_)
        obtain ⟨rfl, dv35, mv35, rfl, ⟨u35, rfl, hu35⟩, hm35⟩ := hR
        replace hs : St _ _ [_, _, _, _] _ := hs
        replace hu := hu.mono hG35
        replace hb := hb.mono hG35
        replace hrest := hrest.mono hG35
        replace hvs := hvs.mono hG35
        obtain ⟨A35, c35, rfl, _⟩ := id hm35
        obtain ⟨Au35, cu35, rfl, _⟩ := id hu35
        refine O_y hs (Y_move rfl ?_)
        refine O_y hs (Y_extract rfl rfl ?_)
        refine O_y hs (Y_extract rfl rfl ?_)
        refine O_y hs (Y_extract rfl rfl ?_)
        refine O_s (S_alloc hs Try.zeroValue28 (cs := [_, _, _]) rfl fun b10 _ hs => ?_)
        refine O_n (S_stA hs Try.sizeOf28 rfl rfl (vs := [_, _, _]) rfl rfl (by simp) (cs' := [_, _, _]) rfl fun _ hs => ?_)
        refine O_y hs (Y_assign rfl ?_)
        refine O_y hs (Y_assign rfl ?_)
        refine O_nil (T_sub [(2, _), (4, _), (7, _), (8, _), (10, _), (11, _), (12, _)] ⟨rfl, rfl, rfl, rfl, rfl, rfl, rfl, trivial⟩ ?_)
        refine T_seq (T_seq (T_region rfl ?_))
        refine O_y hs (Y_move rfl ?_)
        refine O_y hs (Y_len Try.underlying23 rfl ?_)
        refine O_y hs (Y_cmpS rfl rfl rfl (fun h41 => ?_) (fun h41 => ?_))
        · -- h41: True
          dsimp only [cmpP] at h41
          refine O_nil (T_sub [(2, _), (4, _), (7, _), (8, _), (10, _), (11, _), (12, _), (41, _)] ⟨rfl, rfl, rfl, rfl, rfl, rfl, rfl, rfl, trivial⟩ ?_)
          refine T_condT rfl (T_region rfl ?_)
          refine O_y hs (Y_move rfl ?_)
          refine O_y hs (Y_move rfl ?_)
          refine O_s (S_lit hs Try.underlying22 Try.sizeOf23 Try.zeroValue23 rfl rfl (by decide) (by decide) rfl (cs := [_]) rfl rfl fun v7 _ hs _ => ?_)
          obtain ⟨_, hG44, hl44, hs⟩ := hs.fixRow noM
          replace hu := hu.mono hG44
          replace hb := hb.mono hG44
          replace hrest := hrest.mono hG44
          replace hvs := hvs.mono hG44
          replace hu35 := hu35.mono hG44
          replace hm35 := hm35.mono hG44
          have hs := hs.front 1 rfl (H' := [_, _, _, _, _]) rfl
          refine O_s (S_append hs Try.underlying22 TI23 rfl (by decide) rfl rfl (hl44) (one1 rfl) (by have := hrun.2.2.1; simp at this; omega) (by have := hrun.2.2.1; simp at this; omega) fun v8 _ hs => ?_)
          refine O_y hs (Y_assign rfl ?_)
          refine O_nil (T_sub [(2, _), (4, _), (7, _), (8, _), (10, _), (12, _)] ⟨rfl, rfl, rfl, rfl, rfl, rfl, trivial⟩ ?_)
          refine T_seq (T_region rfl ?_)
          refine O_y hs (Y_ldA 1 Try.isAgg28 Try.sizeOf28 rfl rfl (vs := [_, _, _]) rfl rfl ?_)
          have hs := hs.front 2 rfl (H' := [_, _, _, _, _]) rfl
          refine O_n (S_stA hs Try.sizeOf28 rfl rfl (vs := [_, _, _]) rfl rfl (by simp) (cs' := [_, _, _]) rfl fun _ hs => ?_)
          refine O_nil (T_sub [(2, _), (4, _), (7, _), (8, _), (12, _)] ⟨rfl, rfl, rfl, rfl, rfl, trivial⟩ ?_)
          refine T_region rfl ?_
          refine O_y hs (Y_move rfl ?_)
          refine O_y hs (Y_assign rfl ?_)
          have hs := hs.front 1 rfl (H' := [_, _, _, _, _]) rfl
          have hs := hs.front 2 rfl (H' := [_, _, _, _, _]) rfl
          have hs := hs.drop
          have hgt : (stepF d').2.2 = true → (stepF d').1.rest.length < d'.rest.length := hlt
          have hnx := nextMs_pos ms (show 0 < (stepF d').2.1.length by omega)
          rw [hnx] at hrun'
          refine O_nil ⟨_, ?_, [(2, _), (4, _), (7, _), (8, _), (9, _)], ⟨rfl, rfl, rfl, rfl, rfl, trivial⟩, ⟨_, _, f', _, _, vs ++ [_], _, _, hrun', hu35, LB.snoc hvs hm35, rfl, rfl, by rw [List.length_append]; exact hs⟩⟩
          by_cases hq : (stepF d').2.2 = true <;> simp only [hq, if_true, if_false, Bool.false_eq_true] <;> first | (have := hgt hq; omega) | omega
        · -- h41: False
          dsimp only [cmpP] at h41
          refine O_nil (T_sub [(2, _), (4, _), (7, _), (8, _), (10, _), (11, _), (12, _), (41, _)] ⟨rfl, rfl, rfl, rfl, rfl, rfl, rfl, rfl, trivial⟩ ?_)
          refine T_condF rfl (T_skip ?_)
          refine T_seq (T_region rfl ?_)
          refine O_y hs (Y_ldA 0 Try.isAgg28 Try.sizeOf28 rfl rfl (vs := [_, _, _]) rfl rfl ?_)
          have hs := hs.front 2 rfl (H' := [_, _, _, _, _]) rfl
          refine O_n (S_stA hs Try.sizeOf28 rfl rfl (vs := [_, _, _]) rfl rfl (by simp) (cs' := [_, _, _]) rfl fun _ hs => ?_)
          refine O_nil (T_sub [(2, _), (4, _), (7, _), (8, _), (12, _)] ⟨rfl, rfl, rfl, rfl, rfl, trivial⟩ ?_)
          refine T_region rfl ?_
          refine O_y hs (Y_move rfl ?_)
          refine O_y hs (Y_assign rfl ?_)
          have hs := hs.front 2 rfl (H' := [_, _, _, _, _]) rfl
          have hs := hs.front 2 rfl (H' := [_, _, _, _, _]) rfl
          have hs := hs.drop
          have hgt : (stepF d').2.2 = true → (stepF d').1.rest.length < d'.rest.length := hlt
          have hnx := nextMs_neg ms (show ¬ 0 < (stepF d').2.1.length by omega)
          rw [hnx] at hrun'
          refine O_nil ⟨_, ?_, [(2, _), (4, _), (7, _), (8, _), (9, _)], ⟨rfl, rfl, rfl, rfl, rfl, trivial⟩, ⟨_, _, f', _, _, vs, _, _, hrun', hu35, hvs, rfl, rfl, hs⟩⟩
          by_cases hq : (stepF d').2.2 = true <;> simp only [hq, if_true, if_false, Bool.false_eq_true] <;> first | (have := hgt hq; omega) | omega
      · -- False
        subst hmo
        have hpr := hrun.2.2.2.2 rfl
        replace hpr : prF d b = _ := hpr
        refine T_exit ?_
        refine T_seq (T_seq (T_region rfl ?_))
        refine O_y hs (Y_fieldAddr FO28_2 rfl (m := 2) rfl ?_)
        refine O_y hs (Y_ld 1 Try.isAgg4 rfl rfl rfl ?_)
        refine O_nil (T_sub [(2, _), (4, _), (7, _), (8, _), (49, _)] ⟨rfl, rfl, rfl, rfl, rfl, trivial⟩ ?_)
        refine T_condS rfl (fun hpf => ?_) (fun hpf => ?_)
        · -- True
          refine T_seq (T_region rfl ?_)
          refine O_y hs (Y_ldA 1 Try.isAgg28 Try.sizeOf28 rfl rfl (vs := [_, _, _]) rfl rfl ?_)
          refine O_y hs (Y_move rfl ?_)
          have hs := hs.front 2 rfl (H' := [_, _, _, _]) rfl
          refine O_n (S_stA hs Try.sizeOf28 rfl rfl (vs := [_, _, _]) rfl rfl (by simp) (cs' := [_, _, _]) rfl fun _ hs => ?_)
          refine O_y hs (Y_assign rfl ?_)
          refine O_y hs (Y_assign rfl ?_)
          refine O_nil (T_sub [(4, _), (5, _), (6, _)] ⟨rfl, rfl, rfl, trivial⟩ ?_)
          refine T_ret ?_
          have hs := hs.front 1 rfl (H' := [_, _, _, _]) rfl
          have hr := hs
          refine Rt_fin (vs := [_, _, _]) Try.results14 rfl ⟨ResOk_blk 1 hr Try.isAgg28 Try.sizeOf28 rfl (cs := [_, _, _]) rfl rfl, rfl, rfl, trivial⟩ ?_
          try dsimp only [tup]
          rw [feedF_form hv hdf (by rw [hpr]; exact hpf), hpr, ← hpf]
          obtain ⟨G', hG, hf2, hs3⟩ := hs.fixRow noM
          exact ⟨_, [], hs3.done, rfl, _, _, rfl, ⟨_, rfl, hrest.mono hG⟩, LBytes.of hf2 (hvs.mono hG)⟩
        · -- False
          refine T_skip ?_
          refine T_seq (T_seq (T_region rfl ?_))
          refine O_y hs (Y_fieldAddr FO28_0 rfl (m := 0) rfl ?_)
          refine O_y hs (Y_ld 1 Try.isAgg23 rfl rfl rfl ?_)
          refine O_y hs (Y_len Try.underlying23 rfl ?_)
          refine O_y hs (Y_cmpS rfl rfl rfl (fun h55 => ?_) (fun h55 => ?_))
          · -- h55: True
            dsimp only [cmpP] at h55
            refine O_nil (T_sub [(2, _), (4, _), (7, _), (8, _), (55, _)] ⟨rfl, rfl, rfl, rfl, rfl, trivial⟩ ?_)
            refine T_condT rfl (T_seq (T_region rfl ?_))
            refine O_y hs (Y_ldA 3 Try.isAgg28 Try.sizeOf28 rfl rfl (vs := [_, _, _]) rfl rfl ?_)
            have hs := hs.front 2 rfl (H' := [_, _, _, _]) rfl
            refine O_n (S_stA hs Try.sizeOf28 rfl rfl (vs := [_, _, _]) rfl rfl (by simp) (cs' := [_, _, _]) rfl fun _ hs => ?_)
            refine O_y hs (Y_assign rfl ?_)
            refine O_y hs (Y_assign rfl ?_)
            refine O_nil (T_sub [(4, _), (5, _), (6, _)] ⟨rfl, rfl, rfl, trivial⟩ ?_)
            refine T_ret ?_
            have hr := hs
            refine Rt_fin (vs := [_, _, _]) Try.results14 rfl ⟨ResOk_blk 0 hr Try.isAgg28 Try.sizeOf28 rfl (cs := [_, _, _]) rfl rfl, rfl, rfl, trivial⟩ ?_
            try dsimp only [tup]
            rw [feedF_full hv hdf (by rw [hpr]; exact hpf) (by rw [hpr]; dsimp only; omega)]
            exact ⟨_, [], hs.done, rfl, _, _, rfl, ⟨_, rfl, hu⟩, LBytes.nil _⟩
          · -- h55: False
            dsimp only [cmpP] at h55
            refine O_nil (T_sub [(2, _), (4, _), (7, _), (8, _), (55, _)] ⟨rfl, rfl, rfl, rfl, rfl, trivial⟩ ?_)
            refine T_condF rfl (T_skip ?_)
            refine T_seq (T_region rfl ?_)
            refine O_y hs (Y_ldA 1 Try.isAgg28 Try.sizeOf28 rfl rfl (vs := [_, _, _]) rfl rfl ?_)
            refine O_y hs (Y_move rfl ?_)
            have hs := hs.front 2 rfl (H' := [_, _, _, _]) rfl
            refine O_n (S_stA hs Try.sizeOf28 rfl rfl (vs := [_, _, _]) rfl rfl (by simp) (cs' := [_, _, _]) rfl fun _ hs => ?_)
            refine O_y hs (Y_assign rfl ?_)
            refine O_y hs (Y_assign rfl ?_)
            refine O_nil (T_sub [(4, _), (5, _), (6, _)] ⟨rfl, rfl, rfl, trivial⟩ ?_)
            refine T_ret ?_
            have hs := hs.front 1 rfl (H' := [_, _, _, _]) rfl
            have hr := hs
            refine Rt_fin (vs := [_, _, _]) Try.results14 rfl ⟨ResOk_blk 1 hr Try.isAgg28 Try.sizeOf28 rfl (cs := [_, _, _]) rfl rfl, rfl, rfl, trivial⟩ ?_
            try dsimp only [tup]
            rw [feedF_ok hv hdf (by rw [hpr]; exact hpf) (by rw [hpr]; dsimp only; omega), hpr, ← hpf]
            obtain ⟨G', hG, hf2, hs3⟩ := hs.fixRow noM
            exact ⟨_, [], hs3.done, rfl, _, _, rfl, ⟨_, rfl, hrest.mono hG⟩, LBytes.of hf2 (hvs.mono hG)⟩

set_option maxHeartbeats 400000 in
set_option maxRecDepth 10000 in
theorem run_ok {v v2 : Value} {G : Ghost} {d : Dec} {l : List (List UInt8)} (hd : DecR G v d) (hl : LBytes G v2 l) (hn : l.length ≤ 1000) (hm : ∀ x ∈ l, x.length ≤ 100000) :
    FnOk Try.prog 27 [v, v2] G [] fun r G' H' => H' = [] ∧ ∃ dv mv, r = .tuple #[dv, mv, .int .i64 (runF d l).2.2] ∧ DecR G' dv (runF d l).1 ∧ LBytes G' mv (runF d l).2.1 := by
  obtain ⟨u, rfl, hu⟩ := hd
  obtain ⟨A, cap, rfl, hu'⟩ := id hu
  obtain ⟨vl, hl1, hl2⟩ := id hl
  obtain ⟨A2, c2, rfl, hl3⟩ := id hl1
  refine FnOk.of_T [(0, _), (1, _)] Try.func27 rfl Try.ntmps27 (by simp) rfl fun w0 hs => ?_
  have hu0 := hu
  have hl0 := hl
  refine T_seq (T_region rfl ?_)
  refine O_s (S_box hs rfl (cs := [_, _, _]) rfl fun b2 _ hs => ?_)
  refine O_s (S_alloc hs Try.zeroValue28 (cs := [_, _, _]) rfl fun b4 _ hs => ?_)
  refine O_y hs (Y_assign rfl ?_)
  refine O_y hs (Y_assign rfl ?_)
  refine O_nil (T_sub [(1, _), (2, _), (4, _)] ⟨rfl, rfl, rfl, trivial⟩ ?_)
  refine T_seq (T_region rfl ?_)
  refine O_s (S_lit hs Try.underlying22 Try.sizeOf23 Try.zeroValue23 rfl rfl (by decide) (by decide) rfl (cs := []) rfl rfl fun v1 _ hs _ => ?_)
  refine O_y hs (Y_assign rfl ?_)
  refine O_nil (T_sub [(1, _), (2, _), (4, _), (7, _)] ⟨rfl, rfl, rfl, rfl, trivial⟩ ?_)
  refine T_seq (T_seq (T_region rfl ?_))
  refine O_y hs (Y_assign rfl ?_)
  refine O_nil (T_sub [(1, _), (2, _), (4, _), (7, _), (8, _)] ⟨rfl, rfl, rfl, rfl, rfl, trivial⟩ ?_)
  refine T_block (T_loop (fun m E w => ∃ (k : Nat) (d' : Dec) (u2 v7 : Value) (vs : List Value) (ms : List (List UInt8)) (G' : Ghost), k ≤ l.length ∧ runF d l = runPre ms (runF d' (l.drop k)) ∧ Bytes G' u2 d'.rest ∧ LB G' vs ms ∧ ms.length ≤ k * 200000 ∧ m = l.length - k ∧ E = ⟨[], [(1, (.slice A2 l.length c2)), (2, .pointer (some ⟨b2, 0, none⟩)), (4, .pointer (some ⟨b4, 0, none⟩)), (7, v7), (8, .int .i64 (k : Int))]⟩ ∧ St ⟨w0, G, feet []⟩ G' [.row 23 1 v7 vs.length vs, .blk b4 28 [.slice none 0 0, .int .i64 0, .bool false], .blk b2 28 [u2, .int .i64 d'.credit, .bool d'.failed]] w) (L := [(1, _), (2, _), (4, _), (7, _), (8, _)]) ⟨rfl, rfl, rfl, rfl, rfl, trivial⟩ (⟨0, d, _, _, [], [], _, by omega, by simp [runPre], hu, LB.nil _, by simp, rfl, rfl, hs⟩) fun m E w hI => ?_)
  obtain ⟨k, d', u2, v7, vs, ms, G', hk, hrun, hr2, hvs, hms, rfl, rfl, hs⟩ := hI
  have hu := hu0.mono hs.le
  have hl := hl0.mono hs.le
  have hvl := All2.length hvs
  obtain ⟨A22, c22, rfl, _⟩ := id hr2
  refine T_seq (T_seq (T_region rfl ?_))
  refine O_y hs (Y_move rfl ?_)
  refine O_y hs (Y_move rfl ?_)
  refine O_y hs (Y_len Try.underlying22 rfl ?_)
  refine O_y hs (Y_cmpS rfl rfl rfl (fun h16 => ?_) (fun h16 => ?_))
  · -- h16: True
    dsimp only [cmpP] at h16
    refine O_nil (T_sub [(1, _), (2, _), (4, _), (7, _), (8, _), (16, _)] ⟨rfl, rfl, rfl, rfl, rfl, rfl, trivial⟩ ?_)
    refine T_condT rfl (T_skip ?_)
    refine T_seq (T_block (T_seq (T_drawS [0, 1, 2, 3, 4, 5, 6, 7, 10] hs (by kernel_rfl) ?_)))
    replace hs := hs.drew
    refine A_take 0 rfl (by kernel_rfl) rfl hs (Y_ldA 2 Try.isAgg28 Try.sizeOf28 rfl rfl (vs := [_, _, _]) rfl rfl ?_)
    refine A_take 1 rfl (by kernel_rfl) rfl hs (Y_move rfl ?_)
    refine A_take 2 rfl (by kernel_rfl) rfl hs (Y_move rfl ?_)
    refine A_take 3 rfl (by kernel_rfl) rfl hs (Y_idxL hl k Try.underlying22 Try.sizeOf23 rfl rfl rfl (by omega) fun p23 u23 hp23 hu23 => ?_)
    obtain ⟨A23, c23, rfl, _⟩ := id hu23
    refine A_take 4 rfl (by kernel_rfl) rfl hs (Y_ldG Try.isAgg23 rfl hp23 ?_)
    refine A_two 5 10 rfl rfl (by kernel_rfl) rfl rfl ?_ ?_
    · -- operation 5 comes up
      have hle := hs.le
      refine S_call (H1 := []) hs rfl Try.func13 rfl (by kernel_rfl) (feed_ok (d := d') ⟨_, rfl, hr2⟩ hu23 (hm _ (List.getElem_mem (by omega)))) fun v2 G' H' _ hR hG25 hs => ?_
      obtain ⟨rfl, dv25, mv25, rfl, ⟨u25, rfl, hu25⟩, hm25⟩ := hR
      replace hs : St _ _ [_, _, _] _ := hs
      replace hu := hu.mono hG25
      replace hl := hl.mono hG25
      replace hr2 := hr2.mono hG25
      replace hvs := hvs.mono hG25
      replace hu23 := hu23.mono hG25
      obtain ⟨Au25, cu25, rfl, _⟩ := id hu25
      obtain ⟨vs25, hsl25, hvs25⟩ := id hm25
      replace hvs25 : LB _ vs25 _ := hvs25
      obtain ⟨A25, c25, rfl, _⟩ := id hsl25
      refine A_moreS hs hle hG25 (List.Sublist.refl _) ?_
      refine A_take 6 rfl (by kernel_rfl) rfl hs (Y_move rfl ?_)
      refine A_pure 8 rfl (by kernel_rfl) rfl (Y_extract rfl rfl ?_)
      refine A_pure 9 rfl (by kernel_rfl) rfl (Y_extract rfl rfl ?_)
      refine A_take 7 rfl (by kernel_rfl) rfl hs (Y_extract rfl rfl ?_)
      have hle := hs.le
      refine A_only 10 rfl (by kernel_rfl) rfl (S_alloc hs Try.zeroValue28 (cs := [_, _, _]) rfl fun b9 _ hs => ?_)
      refine A_moreS hs hle (Ghost.le.refl _) (List.sublist_cons_self _ _) ?_
      refine A_tailN 11 rfl (by kernel_rfl) (by kernel_rfl) rfl (S_stA hs Try.sizeOf28 rfl rfl (vs := [_, _, _]) rfl rfl (by simp) (cs' := [_, _, _]) rfl fun _ hs => ?_)
      refine A_tail 12 rfl (by kernel_rfl) (by kernel_rfl) rfl (S_y hs rfl (Y_assign rfl ?_))
      refine A_tail 13 rfl (by kernel_rfl) (by kernel_rfl) rfl (S_y hs rfl (Y_assign rfl ?_))
      refine A_done (by kernel_rfl) (T_sub [(1, _), (2, _), (4, _), (7, _), (8, _), (9, _), (10, _), (11, _)] ⟨rfl, rfl, rfl, rfl, rfl, rfl, rfl, rfl, trivial⟩ ?_)
      refine T_seq (T_region rfl ?_)
      refine O_y hs (Y_ldA 0 Try.isAgg28 Try.sizeOf28 rfl rfl (vs := [_, _, _]) rfl rfl ?_)
      have hs := hs.front 3 rfl (H' := [_, _, _, _]) rfl
      refine O_n (S_stA hs Try.sizeOf28 rfl rfl (vs := [_, _, _]) rfl rfl (by simp) (cs' := [_, _, _]) rfl fun _ hs => ?_)
      refine O_nil (T_sub [(1, _), (2, _), (4, _), (7, _), (8, _), (10, _), (11, _)] ⟨rfl, rfl, rfl, rfl, rfl, rfl, rfl, trivial⟩ ?_)
      refine T_seq (T_region rfl ?_)
      refine O_y hs (Y_move rfl ?_)
      refine O_y hs (Y_move rfl ?_)
      have hs := hs.front 2 rfl (H' := [_, _, _, _]) rfl
      refine O_s (S_append hs Try.underlying22 TI23 rfl (by decide) rfl rfl (hsl25) (LB.one hvs25) (by have := feedF_msgs_le d' l[k]; have := hm _ (List.getElem_mem (show k < l.length by omega)); omega) (by have := feedF_msgs_le d' l[k]; have := hm _ (List.getElem_mem (show k < l.length by omega)); omega) fun v3 _ hs => ?_)
      refine O_y hs (Y_assign rfl ?_)
      refine O_nil (T_sub [(1, _), (2, _), (4, _), (7, _), (8, _), (11, _)] ⟨rfl, rfl, rfl, rfl, rfl, rfl, trivial⟩ ?_)
      refine T_seq (T_region rfl ?_)
      refine O_y hs (Y_move rfl ?_)
      refine O_y hs (Y_cmpS rfl rfl rfl (fun h34 => ?_) (fun h34 => ?_))
      · -- h34: True
        dsimp only [cmpP] at h34
        refine O_nil (T_sub [(1, _), (2, _), (4, _), (7, _), (8, _), (11, _), (34, _)] ⟨rfl, rfl, rfl, rfl, rfl, rfl, rfl, trivial⟩ ?_)
        refine T_condT rfl (T_seq (T_region rfl ?_))
        refine O_y hs (Y_ldA 1 Try.isAgg28 Try.sizeOf28 rfl rfl (vs := [_, _, _]) rfl rfl ?_)
        refine O_y hs (Y_move rfl ?_)
        refine O_y hs (Y_move rfl ?_)
        have hs := hs.front 3 rfl (H' := [_, _, _, _]) rfl
        refine O_n (S_stA hs Try.sizeOf28 rfl rfl (vs := [_, _, _]) rfl rfl (by simp) (cs' := [_, _, _]) rfl fun _ hs => ?_)
        refine O_y hs (Y_assign rfl ?_)
        refine O_y hs (Y_assign rfl ?_)
        refine O_nil (T_sub [(4, _), (5, _), (6, _)] ⟨rfl, rfl, rfl, trivial⟩ ?_)
        refine T_ret ?_
        have hs := hs.front 1 rfl (H' := [_, _, _, _]) rfl
        have hr := hs
        refine Rt_fin (vs := [_, _, _]) Try.results27 rfl ⟨ResOk_blk 1 hr Try.isAgg28 Try.sizeOf28 rfl (cs := [_, _, _]) rfl rfl, rfl, rfl, trivial⟩ ?_
        try dsimp only [tup]
        rw [hrun, run_err (by omega) h34, runPre]
        obtain ⟨G', hG, hf2, hs3⟩ := hs.fixRow noM
        exact ⟨_, [], hs3.done, rfl, _, _, rfl, ⟨_, rfl, hu25.mono hG⟩, LBytes.ofSl hf2 (by rw [List.length_append, hvl]) (All2.append (hvs.mono hG) (hvs25.mono hG))⟩
      · -- h34: False
        dsimp only [cmpP] at h34
        refine O_nil (T_sub [(1, _), (2, _), (4, _), (7, _), (8, _), (11, _), (34, _)] ⟨rfl, rfl, rfl, rfl, rfl, rfl, rfl, trivial⟩ ?_)
        refine T_condF rfl (T_skip ?_)
        refine T_region rfl ?_
        refine O_y hs (Y_move rfl ?_)
        refine O_y hs (Y_add (c := ((k + 1 : Nat) : Int)) rfl rfl (by omega) (by omega) ?_)
        refine O_y hs (Y_assign rfl ?_)
        have hs := hs.front 1 rfl (H' := [_, _, _, _]) rfl
        have hs := hs.front 3 rfl (H' := [_, _, _, _]) rfl
        have hs := hs.front 2 rfl (H' := [_, _, _, _]) rfl
        replace hs := hs.weak hs.le (Ghost.le.refl _) (H := [_, _, _]) (List.Sublist.cons_cons _ (List.Sublist.cons_cons _ (List.Sublist.cons_cons _ (List.nil_sublist _))))
        refine O_nil ⟨_, ?_, [(1, _), (2, _), (4, _), (7, _), (8, _)], ⟨rfl, rfl, rfl, rfl, rfl, trivial⟩, ⟨k + 1, _, _, _, vs ++ vs25, _, _, by omega, by rw [hrun, run_go (by omega) (by omega)], hu25, All2.append hvs hvs25, by have := feedF_msgs_le d' l[k]; have := hm _ (List.getElem_mem (show k < l.length by omega)); rw [List.length_append]; omega, rfl, rfl, by rw [List.length_append, All2.length hvs25]; exact hs⟩⟩
        omega
    · -- operation 10 comes up
      have hle := hs.le
      refine S_alloc hs Try.zeroValue28 (cs := [_, _, _]) rfl fun b9 _ hs => ?_
      refine A_moreS hs hle (Ghost.le.refl _) (List.sublist_cons_self _ _) ?_
      have hle := hs.le
      refine A_only 5 rfl (by kernel_rfl) rfl (S_call (H1 := []) hs rfl Try.func13 rfl (by kernel_rfl) (feed_ok (d := d') ⟨_, rfl, hr2⟩ hu23 (hm _ (List.getElem_mem (by omega)))) fun v4 G' H' _ hR hG25 hs => ?_)
      obtain ⟨rfl, dv25, mv25, rfl, ⟨u25, rfl, hu25⟩, hm25⟩ := hR
      replace hs : St _ _ [_, _, _, _] _ := hs
      replace hu := hu.mono hG25
      replace hl := hl.mono hG25
      replace hr2 := hr2.mono hG25
      replace hvs := hvs.mono hG25
      replace hu23 := hu23.mono hG25
      obtain ⟨Au25, cu25, rfl, _⟩ := id hu25
      obtain ⟨vs25, hsl25, hvs25⟩ := id hm25
      replace hvs25 : LB _ vs25 _ := hvs25
      obtain ⟨A25, c25, rfl, _⟩ := id hsl25
      refine A_moreS hs hle hG25 (List.Sublist.refl _) ?_
      refine A_take 6 rfl (by kernel_rfl) rfl hs (Y_move rfl ?_)
      refine A_pure 8 rfl (by kernel_rfl) rfl (Y_extract rfl rfl ?_)
      refine A_pure 9 rfl (by kernel_rfl) rfl (Y_extract rfl rfl ?_)
      refine A_take 7 rfl (by kernel_rfl) rfl hs (Y_extract rfl rfl ?_)
      refine A_tailN 11 rfl (by kernel_rfl) (by kernel_rfl) rfl (S_stA hs Try.sizeOf28 rfl rfl (vs := [_, _, _]) rfl rfl (by simp) (cs' := [_, _, _]) rfl fun _ hs => ?_)
      refine A_tail 12 rfl (by kernel_rfl) (by kernel_rfl) rfl (S_y hs rfl (Y_assign rfl ?_))
      refine A_tail 13 rfl (by kernel_rfl) (by kernel_rfl) rfl (S_y hs rfl (Y_assign rfl ?_))
      refine A_done (by kernel_rfl) (T_sub [(1, _), (2, _), (4, _), (7, _), (8, _), (9, _), (10, _), (11, _)] ⟨rfl, rfl, rfl, rfl, rfl, rfl, rfl, rfl, trivial⟩ ?_)
      refine T_seq (T_region rfl ?_)
      refine O_y hs (Y_ldA 0 Try.isAgg28 Try.sizeOf28 rfl rfl (vs := [_, _, _]) rfl rfl ?_)
      have hs := hs.front 3 rfl (H' := [_, _, _, _]) rfl
      refine O_n (S_stA hs Try.sizeOf28 rfl rfl (vs := [_, _, _]) rfl rfl (by simp) (cs' := [_, _, _]) rfl fun _ hs => ?_)
      refine O_nil (T_sub [(1, _), (2, _), (4, _), (7, _), (8, _), (10, _), (11, _)] ⟨rfl, rfl, rfl, rfl, rfl, rfl, rfl, trivial⟩ ?_)
      refine T_seq (T_region rfl ?_)
      refine O_y hs (Y_move rfl ?_)
      refine O_y hs (Y_move rfl ?_)
      have hs := hs.front 2 rfl (H' := [_, _, _, _]) rfl
      refine O_s (S_append hs Try.underlying22 TI23 rfl (by decide) rfl rfl (hsl25) (LB.one hvs25) (by have := feedF_msgs_le d' l[k]; have := hm _ (List.getElem_mem (show k < l.length by omega)); omega) (by have := feedF_msgs_le d' l[k]; have := hm _ (List.getElem_mem (show k < l.length by omega)); omega) fun v5 _ hs => ?_)
      refine O_y hs (Y_assign rfl ?_)
      refine O_nil (T_sub [(1, _), (2, _), (4, _), (7, _), (8, _), (11, _)] ⟨rfl, rfl, rfl, rfl, rfl, rfl, trivial⟩ ?_)
      refine T_seq (T_region rfl ?_)
      refine O_y hs (Y_move rfl ?_)
      refine O_y hs (Y_cmpS rfl rfl rfl (fun h34 => ?_) (fun h34 => ?_))
      · -- h34: True
        dsimp only [cmpP] at h34
        refine O_nil (T_sub [(1, _), (2, _), (4, _), (7, _), (8, _), (11, _), (34, _)] ⟨rfl, rfl, rfl, rfl, rfl, rfl, rfl, trivial⟩ ?_)
        refine T_condT rfl (T_seq (T_region rfl ?_))
        refine O_y hs (Y_ldA 1 Try.isAgg28 Try.sizeOf28 rfl rfl (vs := [_, _, _]) rfl rfl ?_)
        refine O_y hs (Y_move rfl ?_)
        refine O_y hs (Y_move rfl ?_)
        have hs := hs.front 3 rfl (H' := [_, _, _, _]) rfl
        refine O_n (S_stA hs Try.sizeOf28 rfl rfl (vs := [_, _, _]) rfl rfl (by simp) (cs' := [_, _, _]) rfl fun _ hs => ?_)
        refine O_y hs (Y_assign rfl ?_)
        refine O_y hs (Y_assign rfl ?_)
        refine O_nil (T_sub [(4, _), (5, _), (6, _)] ⟨rfl, rfl, rfl, trivial⟩ ?_)
        refine T_ret ?_
        have hs := hs.front 1 rfl (H' := [_, _, _, _]) rfl
        have hr := hs
        refine Rt_fin (vs := [_, _, _]) Try.results27 rfl ⟨ResOk_blk 1 hr Try.isAgg28 Try.sizeOf28 rfl (cs := [_, _, _]) rfl rfl, rfl, rfl, trivial⟩ ?_
        try dsimp only [tup]
        rw [hrun, run_err (by omega) h34, runPre]
        obtain ⟨G', hG, hf2, hs3⟩ := hs.fixRow noM
        exact ⟨_, [], hs3.done, rfl, _, _, rfl, ⟨_, rfl, hu25.mono hG⟩, LBytes.ofSl hf2 (by rw [List.length_append, hvl]) (All2.append (hvs.mono hG) (hvs25.mono hG))⟩
      · -- h34: False
        dsimp only [cmpP] at h34
        refine O_nil (T_sub [(1, _), (2, _), (4, _), (7, _), (8, _), (11, _), (34, _)] ⟨rfl, rfl, rfl, rfl, rfl, rfl, rfl, trivial⟩ ?_)
        refine T_condF rfl (T_skip ?_)
        refine T_region rfl ?_
        refine O_y hs (Y_move rfl ?_)
        refine O_y hs (Y_add (c := ((k + 1 : Nat) : Int)) rfl rfl (by omega) (by omega) ?_)
        refine O_y hs (Y_assign rfl ?_)
        have hs := hs.front 1 rfl (H' := [_, _, _, _]) rfl
        have hs := hs.front 3 rfl (H' := [_, _, _, _]) rfl
        have hs := hs.front 2 rfl (H' := [_, _, _, _]) rfl
        replace hs := hs.weak hs.le (Ghost.le.refl _) (H := [_, _, _]) (List.Sublist.cons_cons _ (List.Sublist.cons_cons _ (List.Sublist.cons_cons _ (List.nil_sublist _))))
        refine O_nil ⟨_, ?_, [(1, _), (2, _), (4, _), (7, _), (8, _)], ⟨rfl, rfl, rfl, rfl, rfl, trivial⟩, ⟨k + 1, _, _, _, vs ++ vs25, _, _, by omega, by rw [hrun, run_go (by omega) (by omega)], hu25, All2.append hvs hvs25, by have := feedF_msgs_le d' l[k]; have := hm _ (List.getElem_mem (show k < l.length by omega)); rw [List.length_append]; omega, rfl, rfl, by rw [List.length_append, All2.length hvs25]; exact hs⟩⟩
        omega
  · -- h16: False
    dsimp only [cmpP] at h16
    refine O_nil (T_sub [(1, _), (2, _), (4, _), (7, _), (8, _), (16, _)] ⟨rfl, rfl, rfl, rfl, rfl, rfl, trivial⟩ ?_)
    refine T_condF rfl (T_exit ?_)
    refine T_seq (T_region rfl ?_)
    refine O_y hs (Y_ldA 2 Try.isAgg28 Try.sizeOf28 rfl rfl (vs := [_, _, _]) rfl rfl ?_)
    refine O_y hs (Y_move rfl ?_)
    have hs := hs.front 1 rfl (H' := [_, _, _]) rfl
    refine O_n (S_stA hs Try.sizeOf28 rfl rfl (vs := [_, _, _]) rfl rfl (by simp) (cs' := [_, _, _]) rfl fun _ hs => ?_)
    refine O_y hs (Y_assign rfl ?_)
    refine O_y hs (Y_assign rfl ?_)
    refine O_nil (T_sub [(4, _), (5, _), (6, _)] ⟨rfl, rfl, rfl, trivial⟩ ?_)
    refine T_ret ?_
    have hs := hs.front 1 rfl (H' := [_, _, _]) rfl
    have hr := hs
    refine Rt_fin (vs := [_, _, _]) Try.results27 rfl ⟨ResOk_blk 1 hr Try.isAgg28 Try.sizeOf28 rfl (cs := [_, _, _]) rfl rfl, rfl, rfl, trivial⟩ ?_
    try dsimp only [tup]
    rw [hrun, run_end (by omega), runPre]
    obtain ⟨G', hG, hf2, hs3⟩ := hs.fixRow noM
    exact ⟨_, [], hs3.done, rfl, _, _, rfl, ⟨_, rfl, hr2.mono hG⟩, LBytes.cast (by simp) (LBytes.of hf2 (hvs.mono hG))⟩

set_option maxHeartbeats 400000 in
set_option maxRecDepth 10000 in
theorem splitR_ok {v v2 : Value} {G : Ghost} {b : List UInt8} {l : List Int} (hb : Bytes G v b) (hl : Ints G v2 l) (hbn : b.length ≤ 100000) (hln : l.length ≤ 1000) :
    FnOk Try.prog 25 [v, v2] G [] fun r G' H' => H' = [] ∧ LBytes G' r (splitF b l) := by
  obtain ⟨A, cap, rfl, hb'⟩ := id hb
  obtain ⟨A1, c1, rfl, hl'⟩ := id hl
  refine FnOk.of_T [(0, _), (1, _)] Try.func25 rfl Try.ntmps25 (by simp) rfl fun w0 hs => ?_
  have hb0 := hb
  have hl0 := hl
  refine T_seq (T_region rfl ?_)
  refine O_y hs (Y_assign rfl ?_)
  refine O_nil (T_sub [(0, _), (1, _)] ⟨rfl, rfl, trivial⟩ ?_)
  refine T_seq (T_region rfl ?_)
  refine O_s (S_lit hs Try.underlying24 Try.sizeOf3 Try.zeroValue3 rfl rfl (by decide) (by decide) rfl (cs := []) rfl rfl fun v1 _ hs _ => ?_)
  refine O_y hs (Y_assign rfl ?_)
  refine O_nil (T_sub [(0, _), (1, _), (5, _)] ⟨rfl, rfl, rfl, trivial⟩ ?_)
  refine T_seq (T_seq (T_region rfl ?_))
  refine O_y hs (Y_assign rfl ?_)
  refine O_nil (T_sub [(0, _), (1, _), (5, _), (6, _)] ⟨rfl, rfl, rfl, rfl, trivial⟩ ?_)
  refine T_block (T_loop (fun m E w => ∃ (i : Nat) (v5 : Value) (G' : Ghost), i ≤ b.length + 1 ∧ m = b.length + 1 - i ∧ E = ⟨[], [(0, (.slice A b.length cap)), (1, (.slice A1 l.length c1)), (5, v5), (6, .int .i64 (i : Int))]⟩ ∧ St ⟨w0, G, feet []⟩ G' [.row 3 1 v5 (cs i (l.map (clampN b.length))).length ((cs i (l.map (clampN b.length))).map fun x : Nat => .int .i64 (x : Int))] w) (L := [(0, _), (1, _), (5, _), (6, _)]) ⟨rfl, rfl, rfl, rfl, trivial⟩ (⟨0, _, _, by omega, rfl, rfl, hs⟩) fun m E w hI => ?_)
  obtain ⟨i, v5, G', hi, rfl, rfl, hs⟩ := hI
  have hb := hb0.mono hs.le
  have hl := hl0.mono hs.le
  refine T_seq (T_seq (T_region rfl ?_))
  refine O_y hs (Y_move rfl ?_)
  refine O_y hs (Y_move rfl ?_)
  refine O_y hs (Y_len Try.underlying23 rfl ?_)
  refine O_y hs (Y_cmpS rfl rfl rfl (fun h15 => ?_) (fun h15 => ?_))
  · -- h15: True
    dsimp only [cmpP] at h15
    refine O_nil (T_sub [(0, _), (1, _), (5, _), (6, _), (15, _)] ⟨rfl, rfl, rfl, rfl, rfl, trivial⟩ ?_)
    refine T_condT rfl (T_skip ?_)
    refine T_seq (T_block (T_seq (T_region rfl ?_)))
    refine O_y hs (Y_assign rfl ?_)
    refine O_nil (T_sub [(0, _), (1, _), (5, _), (6, _), (7, _)] ⟨rfl, rfl, rfl, rfl, rfl, trivial⟩ ?_)
    refine T_block (T_loop (fun m E w => ∃ (k : Nat) (v5 : Value) (G' : Ghost), k ≤ l.length ∧ m = l.length - k ∧ E = ⟨[], [(0, (.slice A b.length cap)), (1, (.slice A1 l.length c1)), (5, v5), (6, .int .i64 (i : Int)), (7, .int .i64 (k : Int))]⟩ ∧ St ⟨w0, G, feet []⟩ G' [.row 3 1 v5 (cs i (l.map (clampN b.length)) ++ List.replicate (((l.map (clampN b.length)).take k).count i) i).length ((cs i (l.map (clampN b.length)) ++ List.replicate (((l.map (clampN b.length)).take k).count i) i).map fun x : Nat => .int .i64 (x : Int))] w) (L := [(0, _), (1, _), (5, _), (6, _), (7, _)]) ⟨rfl, rfl, rfl, rfl, rfl, trivial⟩ (⟨0, _, _, by omega, rfl, rfl, by simpa using hs⟩) fun m E w hI => ?_)
    obtain ⟨k, v5, G', hk, rfl, rfl, hs⟩ := hI
    have hb := hb0.mono hs.le
    have hl := hl0.mono hs.le
    refine T_seq (T_seq (T_region rfl ?_))
    refine O_y hs (Y_move rfl ?_)
    refine O_y hs (Y_move rfl ?_)
    refine O_y hs (Y_len Try.underlying24 rfl ?_)
    refine O_y hs (Y_cmpS rfl rfl rfl (fun h21 => ?_) (fun h21 => ?_))
    · -- h21: True
      dsimp only [cmpP] at h21
      refine O_nil (T_sub [(0, _), (1, _), (5, _), (6, _), (7, _), (21, _)] ⟨rfl, rfl, rfl, rfl, rfl, rfl, trivial⟩ ?_)
      refine T_condT rfl (T_skip ?_)
      refine T_seq (T_block (T_seq (T_region rfl ?_)))
      refine O_y hs (Y_move rfl ?_)
      refine O_y hs (Y_move rfl ?_)
      refine O_y hs (Y_idxI hl k Try.underlying24 Try.sizeOf3 rfl rfl rfl (by omega) fun p26 hp26 => ?_)
      refine O_y hs (Y_ldG Try.isAgg3 rfl hp26 ?_)
      refine O_y hs (Y_max (c := max l[k] 0) rfl rfl (rfl) ?_)
      refine O_y hs (Y_move rfl ?_)
      refine O_y hs (Y_len Try.underlying23 rfl ?_)
      refine O_y hs (Y_min (c := ((clampN b.length l[k] : Nat) : Int)) rfl rfl (clampN_cast _ _) ?_)
      refine O_y hs (Y_move rfl ?_)
      refine O_y hs (Y_cmpS rfl rfl rfl (fun h33 => ?_) (fun h33 => ?_))
      · -- h33: True
        dsimp only [cmpP] at h33
        refine O_nil (T_sub [(0, _), (1, _), (5, _), (6, _), (7, _), (33, _)] ⟨rfl, rfl, rfl, rfl, rfl, rfl, trivial⟩ ?_)
        refine T_condT rfl (T_region rfl ?_)
        refine O_y hs (Y_move rfl ?_)
        refine O_y hs (Y_move rfl ?_)
        refine O_s (S_lit hs Try.underlying24 Try.sizeOf3 Try.zeroValue3 rfl rfl (by decide) (by decide) rfl (cs := [_]) rfl rfl fun v2 _ hs _ => ?_)
        obtain ⟨_, hG36, hl36, hs⟩ := hs.fixRow noM
        replace hb := hb.mono hG36
        replace hl := hl.mono hG36
        refine O_s (S_append hs Try.underlying24 TI3 rfl (by decide) rfl rfl (hl36) (one1 rfl) (by have := cu_len (k := k) (L := (l.map (clampN b.length))) (show i ≤ 100001 by omega); rw [List.length_map] at this; omega) (by have := cu_len (k := k) (L := (l.map (clampN b.length))) (show i ≤ 100001 by omega); rw [List.length_map] at this; omega) fun v3 _ hs => ?_)
        refine O_y hs (Y_assign rfl ?_)
        refine O_nil (T_sub [(0, _), (1, _), (5, _), (6, _), (7, _)] ⟨rfl, rfl, rfl, rfl, rfl, trivial⟩ ?_)
        refine T_region rfl ?_
        refine O_y hs (Y_move rfl ?_)
        refine O_y hs (Y_add (c := ((k + 1 : Nat) : Int)) rfl rfl (by omega) (by omega) ?_)
        refine O_y hs (Y_assign rfl ?_)
        have hcn := count_take_succ (l.map (clampN b.length)) i k (by simp; omega)
        rw [List.getElem_map, if_pos (by omega)] at hcn
        refine O_nil ⟨_, ?_, [(0, _), (1, _), (5, _), (6, _), (7, _)], ⟨rfl, rfl, rfl, rfl, rfl, trivial⟩, ⟨k + 1, _, _, by omega, rfl, rfl, by rw [hcn]; rw [List.replicate_succ', ← List.append_assoc, List.length_append, List.map_append]; exact hs⟩⟩
        omega
      · -- h33: False
        dsimp only [cmpP] at h33
        refine O_nil (T_sub [(0, _), (1, _), (5, _), (6, _), (7, _), (33, _)] ⟨rfl, rfl, rfl, rfl, rfl, rfl, trivial⟩ ?_)
        refine T_condF rfl (T_skip ?_)
        refine T_region rfl ?_
        refine O_y hs (Y_move rfl ?_)
        refine O_y hs (Y_add (c := ((k + 1 : Nat) : Int)) rfl rfl (by omega) (by omega) ?_)
        refine O_y hs (Y_assign rfl ?_)
        have hcn := count_take_succ (l.map (clampN b.length)) i k (by simp; omega)
        rw [List.getElem_map, if_neg (by omega)] at hcn
        refine O_nil ⟨_, ?_, [(0, _), (1, _), (5, _), (6, _), (7, _)], ⟨rfl, rfl, rfl, rfl, rfl, trivial⟩, ⟨k + 1, _, _, by omega, rfl, rfl, by rw [hcn]; exact hs⟩⟩
        omega
    · -- h21: False
      dsimp only [cmpP] at h21
      refine O_nil (T_sub [(0, _), (1, _), (5, _), (6, _), (7, _), (21, _)] ⟨rfl, rfl, rfl, rfl, rfl, rfl, trivial⟩ ?_)
      refine T_condF rfl (T_exit ?_)
      refine T_region rfl ?_
      refine O_y hs (Y_move rfl ?_)
      refine O_y hs (Y_add (c := ((i + 1 : Nat) : Int)) rfl rfl (by omega) (by omega) ?_)
      refine O_y hs (Y_assign rfl ?_)
      obtain rfl : k = l.length := by omega
      refine O_nil ⟨_, ?_, [(0, _), (1, _), (5, _), (6, _)], ⟨rfl, rfl, rfl, rfl, trivial⟩, ⟨i + 1, _, _, by omega, rfl, rfl, by rw [cs_succ]; rw [List.take_of_length_le (by simp)] at hs; exact hs⟩⟩
      omega
  · -- h15: False
    dsimp only [cmpP] at h15
    refine O_nil (T_sub [(0, _), (1, _), (5, _), (6, _), (15, _)] ⟨rfl, rfl, rfl, rfl, rfl, trivial⟩ ?_)
    refine T_condF rfl (T_exit ?_)
    refine T_seq (T_region rfl ?_)
    refine O_s (S_lit hs Try.underlying22 Try.sizeOf23 Try.zeroValue23 rfl rfl (by decide) (by decide) rfl (cs := []) rfl rfl fun v4 _ hs _ => ?_)
    refine O_y hs (Y_assign rfl ?_)
    refine O_y hs (Y_assign rfl ?_)
    refine O_nil (T_sub [(0, _), (5, _), (8, _), (9, _)] ⟨rfl, rfl, rfl, rfl, trivial⟩ ?_)
    refine T_seq (T_seq (T_region rfl ?_))
    refine O_y hs (Y_assign rfl ?_)
    refine O_nil (T_sub [(0, _), (5, _), (8, _), (9, _), (10, _)] ⟨rfl, rfl, rfl, rfl, rfl, trivial⟩ ?_)
    obtain rfl : i = b.length + 1 := by omega
    have hs := hs.front 1 rfl (H' := [_, _]) rfl
    obtain ⟨_, hG0, hcut, hs2⟩ := hs.fixRow noM
    replace hb := hb.mono hG0
    replace hl := hl.mono hG0
    replace hcut := Nats.ofSl (l := (cutsN b.length l)) hcut rfl rfl
    obtain ⟨A5, c5, rfl, _⟩ := id hcut
    have hs := hs2
    refine T_block (T_loop (fun m E w => ∃ (k fr : Nat) (v8 : Value) (vs : List Value) (G' : Ghost), k ≤ (cutsN b.length l).length ∧ Up b.length fr ((cutsN b.length l).drop k) ∧ (splitF b l).drop k = piecesF b fr ((cutsN b.length l).drop k) ∧ LB G' vs ((splitF b l).take k) ∧ vs.length = k ∧ Nats G' (.slice A5 (cutsN b.length l).length c5) (cutsN b.length l) ∧ m = (cutsN b.length l).length - k ∧ E = ⟨[], [(0, (.slice A b.length cap)), (5, (.slice A5 (cutsN b.length l).length c5)), (8, v8), (9, .int .i64 (fr : Int)), (10, .int .i64 (k : Int))]⟩ ∧ St ⟨w0, G, feet []⟩ G' [.row 23 1 v8 vs.length vs] w) (L := [(0, _), (5, _), (8, _), (9, _), (10, _)]) ⟨rfl, rfl, rfl, rfl, rfl, trivial⟩ (⟨0, 0, _, [], _, by omega, cutsN_up _ _, rfl, LB.nil _, rfl, hcut, rfl, rfl, hs⟩) fun m E w hI => ?_)
    obtain ⟨k, fr, v8, vs, G', hk, hup, hpl, hvs, hvl, hcut, rfl, rfl, hs⟩ := hI
    have hb := hb0.mono hs.le
    have hl := hl0.mono hs.le
    have hcl := cutsN_len b.length l
    refine T_seq (T_seq (T_region rfl ?_))
    refine O_y hs (Y_move rfl ?_)
    refine O_y hs (Y_move rfl ?_)
    refine O_y hs (Y_len Try.underlying24 rfl ?_)
    refine O_y hs (Y_cmpS rfl rfl rfl (fun h42 => ?_) (fun h42 => ?_))
    · -- h42: True
      dsimp only [cmpP] at h42
      refine O_nil (T_sub [(0, _), (5, _), (8, _), (9, _), (10, _), (42, _)] ⟨rfl, rfl, rfl, rfl, rfl, rfl, trivial⟩ ?_)
      refine T_condT rfl (T_skip ?_)
      have hat := hup.at (show k < (cutsN b.length l).length by omega)
      have hsp := split_at hpl (show k < (cutsN b.length l).length by omega)
      refine T_seq (T_block (T_seq (T_region rfl ?_)))
      refine O_y hs (Y_move rfl ?_)
      refine O_y hs (Y_move rfl ?_)
      refine O_y hs (Y_move rfl ?_)
      refine O_y hs (Y_move rfl ?_)
      refine O_y hs (Y_move rfl ?_)
      refine O_y hs (Y_idxN hcut k Try.underlying24 Try.sizeOf3 rfl rfl rfl (by omega) fun p50 hp50 => ?_)
      refine O_y hs (Y_ldG Try.isAgg3 rfl hp50 ?_)
      refine O_y hs (Y_sliceB hb fr (cutsN b.length l)[k] Try.underlying23 Try.sizeOf5 rfl ⟨_, _, rfl, rfl⟩ ⟨_, _, rfl, rfl⟩ hat.1 hat.2.1 fun s52 hs52 => ?_)
      obtain ⟨A52, c52, rfl, _⟩ := id hs52
      refine O_s (S_lit hs Try.underlying22 Try.sizeOf23 Try.zeroValue23 rfl rfl (by decide) (by decide) rfl (cs := [_]) rfl rfl fun v5 _ hs _ => ?_)
      obtain ⟨_, hG53, hl53, hs⟩ := hs.fixRow noM
      replace hb := hb.mono hG53
      replace hl := hl.mono hG53
      replace hcut := hcut.mono hG53
      replace hvs := hvs.mono hG53
      replace hs52 := hs52.mono hG53
      refine O_s (S_append hs Try.underlying22 TI23 rfl (by decide) rfl rfl (hl53) (one1 rfl) (by omega) (by omega) fun v6 _ hs => ?_)
      refine O_y hs (Y_assign rfl ?_)
      refine O_nil (T_sub [(0, _), (5, _), (8, _), (10, _)] ⟨rfl, rfl, rfl, rfl, trivial⟩ ?_)
      refine T_region rfl ?_
      refine O_y hs (Y_move rfl ?_)
      refine O_y hs (Y_move rfl ?_)
      refine O_y hs (Y_idxN hcut k Try.underlying24 Try.sizeOf3 rfl rfl rfl (by omega) fun p57 hp57 => ?_)
      refine O_y hs (Y_ldG Try.isAgg3 rfl hp57 ?_)
      refine O_y hs (Y_assign rfl ?_)
      refine O_nil (T_sub [(0, _), (5, _), (8, _), (9, _), (10, _)] ⟨rfl, rfl, rfl, rfl, rfl, trivial⟩ ?_)
      refine T_region rfl ?_
      refine O_y hs (Y_move rfl ?_)
      refine O_y hs (Y_add (c := ((k + 1 : Nat) : Int)) rfl rfl (by omega) (by omega) ?_)
      refine O_y hs (Y_assign rfl ?_)
      refine O_nil ⟨_, ?_, [(0, _), (5, _), (8, _), (9, _), (10, _)], ⟨rfl, rfl, rfl, rfl, rfl, trivial⟩, ⟨k + 1, _, _, vs ++ [_], _, by omega, hat.2.2, hsp.2, by rw [List.take_add_one, hsp.1]; exact hvs.snoc hs52, by simp [hvl], hcut, rfl, rfl, by rw [List.length_append]; exact hs⟩⟩
      omega
    · -- h42: False
      dsimp only [cmpP] at h42
      refine O_nil (T_sub [(0, _), (5, _), (8, _), (9, _), (10, _), (42, _)] ⟨rfl, rfl, rfl, rfl, rfl, rfl, trivial⟩ ?_)
      refine T_condF rfl (T_exit ?_)
      refine T_seq (T_region rfl ?_)
      refine O_y hs (Y_move rfl ?_)
      refine O_y hs (Y_move rfl ?_)
      refine O_y hs (Y_move rfl ?_)
      refine O_y hs (Y_sliceB hb fr b.length Try.underlying23 Try.sizeOf5 rfl ⟨_, _, rfl, rfl⟩ rfl hup.le (by omega) fun s62 hs62 => ?_)
      obtain ⟨A62, c62, rfl, _⟩ := id hs62
      refine O_s (S_lit hs Try.underlying22 Try.sizeOf23 Try.zeroValue23 rfl rfl (by decide) (by decide) rfl (cs := [_]) rfl rfl fun v7 _ hs _ => ?_)
      obtain ⟨_, hG63, hl63, hs⟩ := hs.fixRow noM
      replace hb := hb.mono hG63
      replace hl := hl.mono hG63
      replace hcut := hcut.mono hG63
      replace hvs := hvs.mono hG63
      replace hs62 := hs62.mono hG63
      refine O_s (S_append hs Try.underlying22 TI23 rfl (by decide) rfl rfl (hl63) (one1 rfl) (by omega) (by omega) fun v8 _ hs => ?_)
      refine O_y hs (Y_assign rfl ?_)
      refine O_nil (T_sub [(4, _)] ⟨rfl, trivial⟩ ?_)
      refine T_ret ?_
      refine Rt_fin (vs := [_]) Try.results25 rfl ⟨rfl, trivial⟩ ?_
      try dsimp only [tup]
      obtain ⟨G', hG, hf, hs3⟩ := hs.fixRow noM
      exact ⟨G', [], hs3, rfl, LBytes.cast (split_last hpl (by omega)) (LBytes.ofSl hf (by simp [hvl, splitF_len]; omega) ((hvs.snoc (Bytes.cast (List.take_of_length_le (by simp)) hs62)).mono hG))⟩

theorem sort_ok {G : Ghost} {v : Value} {n : Nat} {l : List Int} (hn : n = l.length) (hl : l.length ≤ 1000000) :
    FnOk Try.prog 35 [v] G [.row 3 1 v n (l.map (.int .i64))] fun r _ H' => r = .tuple #[] ∧ H' = [.row 3 1 v n ((l.mergeSort fun x y => decide (x ≤ y)).map (.int .i64))] := by
  subst hn
  intro w hw
  have hrow : w.ownsRow 0 3 1 v l.length (l.map (.int .i64)) := hw.hold (.row 3 1 v l.length (l.map (.int .i64))) (by simp)
  have hlen : (l.mergeSort fun x y => decide (x ≤ y)).length = l.length := List.length_mergeSort ..
  rcases hrow.2 with ⟨rfl, h0⟩ | ⟨g, cap, cur, rfl, h0, hh, hnc, hcm, hsz, htk⟩
  · obtain rfl := List.length_eq_zero_iff.1 h0
    exact (Try.slices_Sort_int_none none 0 w).mono fun e w' ⟨he, hw'⟩ => ⟨_, G, _, he, by subst hw'; simpa using hw, rfl, rfl⟩
  · have hg : g < w.heap.size := lt_of_get hh
    rw [Nat.mul_one] at htk
    refine (Try.slices_Sort_int g 0 cap l w (holds_of_blockI hh htk) hg (by omega)).mono fun e w' ⟨he, n, os, hw'⟩ => ⟨_, G, _, he, ?_, rfl, rfl⟩
    subst hw'
    have hgb := grownBy_sortedI (w := w) (g := g) (n := n) (os := os) (l.mergeSort fun x y => decide (x ≤ y)).toArray
    refine St.write hw hgb.os hgb.tape hgb.output hgb.size (fun k hk hf => hgb.block k hk ?_) (ownsRow_sortedI hlen (Nat.zero_le _) hh hnc hcm hsz) (fun k hk => .inl hk)
    intro he; exact hf he.symm


set_option maxHeartbeats 400000 in
set_option maxRecDepth 10000 in
theorem pieces_ok {vb vc : Value} {G : Ghost} {b : List UInt8} {l : List Nat} (hb : Bytes G vb b) (hl : Nats G vc l) :
    FnOk Try.prog 36 [vb, vc] G [] fun r G' H' => H' = [] ∧ ∃ bc bb, r = .func (.func 40) #[] #[.pointer (some ⟨bc, 0, none⟩), .pointer (some ⟨bb, 0, none⟩)] ∧ Cell G' bc vc ∧ Cell G' bb vb := by
  obtain ⟨A, cap, rfl, hb'⟩ := id hb
  obtain ⟨A1, c1, rfl, hl'⟩ := id hl
  refine FnOk.of_T [(0, _), (1, _)] Try.func36 rfl Try.ntmps36 (by simp) rfl fun w0 hs => ?_
  refine T_seq (T_region rfl ?_)
  refine O_s (S_box hs rfl (cs := [_]) rfl fun b2 _ hs => ?_)
  refine O_s (S_box hs rfl (cs := [_]) rfl fun b3 _ hs => ?_)
  refine O_y hs (Y_assign rfl ?_)
  refine O_nil (T_sub [(2, _), (3, _)] ⟨rfl, rfl, trivial⟩ ?_)
  refine T_seq (T_region rfl ?_)
  refine O_y hs (Y_makeFunc (vs := [_, _]) rfl ?_)
  refine O_y hs (Y_assign rfl ?_)
  refine O_nil (T_sub [(4, _)] ⟨rfl, trivial⟩ ?_)
  refine T_ret ?_
  refine Rt_fin (vs := [_]) Try.results36 rfl ⟨rfl, trivial⟩ ?_
  try dsimp only [tup]
  obtain ⟨G1, hG1, hc1, hs⟩ := hs.fixBlk (fun k _ => noMb k)
  obtain ⟨G2, hG2, hc2, hs⟩ := hs.fixBlk (fun k _ => noMb k)
  exact ⟨G2, [], hs, rfl, b3, b2, rfl, Cell.mono hG2 (hc1 0 _ rfl), hc2 0 _ rfl⟩

set_option maxHeartbeats 400000 in
set_option maxRecDepth 10000 in
theorem pieces1_ok {lp bc bb : Nat} {vb vc : Value} {G : Ghost} {b : List UInt8} {l : List Nat} {H0 : List Res} {J : Nat → Ghost → List Res → Prop} (hbc : Cell G bc vc) (hl : Nats G vc l) (hbb : Cell G bb vb) (hb : Bytes G vb b) (hu0 : Up b.length 0 l) (hln : l.length ≤ 1000000)
    (hY : ∀ k pc G' H' v, (piecesF b 0 l)[k]? = some pc → G.le G' → Bytes G' v pc → J k G' H' → YieldOk Try.prog lp [v] G' H' fun r G'' H'' => r = .bool true ∧ J (k + 1) G'' H'') (hJ0 : J 0 G H0) :
    FnOk Try.prog 40 [.func (.yield lp) #[] #[], .pointer (some ⟨bc, 0, none⟩), .pointer (some ⟨bb, 0, none⟩)] G H0 fun _ G' H' => J (l.length + 1) G' H' := by
  obtain ⟨A, cap, rfl, hb'⟩ := id hb
  obtain ⟨A1, c1, rfl, hl'⟩ := id hl
  refine FnOk.of_T [(0, _), (1, _), (2, _)] Try.func40 rfl Try.ntmps40 (by simp) rfl fun w0 hs => ?_
  have hbc0 := hbc
  have hl0 := hl
  have hbb0 := hbb
  have hb0 := hb
  refine T_seq (T_region rfl ?_)
  refine O_y hs (Y_assign rfl ?_)
  refine O_nil (T_sub [(0, _), (1, _), (2, _), (4, _)] ⟨rfl, rfl, rfl, rfl, trivial⟩ ?_)
  refine T_seq (T_seq (T_region rfl ?_))
  refine O_y hs (Y_ldG Try.isAgg24 rfl hbc ?_)
  refine O_y hs (Y_len Try.underlying24 rfl ?_)
  refine O_y hs (Y_move rfl ?_)
  refine O_nil (T_sub [(0, _), (2, _), (4, _), (7, _), (8, _), (9, _)] ⟨rfl, rfl, rfl, rfl, rfl, rfl, trivial⟩ ?_)
  refine T_block (T_loop (fun m E w => ∃ (k fr : Nat) (G' : Ghost) (H' : List Res), k ≤ l.length ∧ Up b.length fr (l.drop k) ∧ (piecesF b 0 l).drop k = piecesF b fr (l.drop k) ∧ J k G' H' ∧ m = l.length - k ∧ E = ⟨[], [(0, .func (.yield lp) #[] #[]), (2, .pointer (some ⟨bb, 0, none⟩)), (4, .int .i64 (fr : Int)), (7, (.slice A1 l.length c1)), (8, .int .i64 (l.length : Int)), (9, .int .i64 (k : Int))]⟩ ∧ St ⟨w0, G, feet H0⟩ G' H' w) (L := [(0, _), (2, _), (4, _), (7, _), (8, _), (9, _)]) ⟨rfl, rfl, rfl, rfl, rfl, rfl, trivial⟩ (⟨0, 0, _, _, by omega, hu0, rfl, hJ0, rfl, rfl, hs⟩) fun m E w hI => ?_)
  obtain ⟨k, fr, G', H', hk, hup, hpl, hJ, rfl, rfl, hs⟩ := hI
  have hbc := hbc0.mono hs.le
  have hl := hl0.mono hs.le
  have hbb := hbb0.mono hs.le
  have hb := hb0.mono hs.le
  refine T_seq (T_region rfl ?_)
  refine O_y hs (Y_cmpS rfl rfl rfl (fun h10 => ?_) (fun h10 => ?_))
  · -- h10: True
    dsimp only [cmpP] at h10
    refine O_nil (T_sub [(0, _), (2, _), (4, _), (7, _), (8, _), (9, _), (10, _)] ⟨rfl, rfl, rfl, rfl, rfl, rfl, rfl, trivial⟩ ?_)
    refine T_seq (T_condT rfl (T_skip ?_))
    refine T_seq (T_block (T_seq (T_region rfl ?_)))
    refine O_y hs (Y_idxN hl k Try.underlying24 Try.sizeOf3 rfl rfl rfl (by omega) fun p11 hp11 => ?_)
    refine O_y hs (Y_ldG Try.isAgg3 rfl hp11 ?_)
    refine O_y hs (Y_assign rfl ?_)
    refine O_nil (T_sub [(0, _), (2, _), (4, _), (6, _), (7, _), (8, _), (9, _)] ⟨rfl, rfl, rfl, rfl, rfl, rfl, rfl, trivial⟩ ?_)
    have hat := hup.at (show k < l.length by omega)
    have hsp := split_at hpl (show k < l.length by omega)
    refine T_seq (T_seq (T_region rfl ?_))
    refine O_y hs (Y_move rfl ?_)
    refine O_y hs (Y_ldG Try.isAgg23 rfl hbb ?_)
    refine O_y hs (Y_move rfl ?_)
    refine O_y hs (Y_move rfl ?_)
    refine O_y hs (Y_sliceB hb fr l[k] Try.underlying23 Try.sizeOf5 rfl ⟨_, _, rfl, rfl⟩ ⟨_, _, rfl, rfl⟩ hat.1 hat.2.1 fun s17 hs17 => ?_)
    obtain ⟨A17, c17, rfl, _⟩ := id hs17
    refine O_s (S_yield (H1 := H') (H := []) (by rw [List.append_nil]; exact hs) rfl rfl (hY k _ _ _ _ hsp.1 hs.le hs17 hJ) fun v G'' H'' w' hR hG18 hs => ?_)
    obtain ⟨rfl, hJ⟩ := hR
    rw [List.append_nil] at hs
    replace hbc := hbc.mono hG18
    replace hl := hl.mono hG18
    replace hbb := hbb.mono hG18
    replace hb := hb.mono hG18
    replace hs17 := hs17.mono hG18
    refine O_y hs (Y_not rfl ?_)
    refine O_nil (T_sub [(0, _), (2, _), (6, _), (7, _), (8, _), (9, _), (19, _)] ⟨rfl, rfl, rfl, rfl, rfl, rfl, rfl, trivial⟩ ?_)
    refine T_condF rfl (T_skip ?_)
    refine T_region rfl ?_
    refine O_y hs (Y_move rfl ?_)
    refine O_y hs (Y_assign rfl ?_)
    refine O_nil (T_sub [(0, _), (2, _), (4, _), (7, _), (8, _), (9, _)] ⟨rfl, rfl, rfl, rfl, rfl, rfl, trivial⟩ ?_)
    refine T_region rfl ?_
    refine O_y hs (Y_add (c := ((k + 1 : Nat) : Int)) rfl rfl (by omega) (by omega) ?_)
    refine O_y hs (Y_move rfl ?_)
    refine O_nil ⟨_, ?_, [(0, _), (2, _), (4, _), (7, _), (8, _), (9, _)], ⟨rfl, rfl, rfl, rfl, rfl, rfl, trivial⟩, ⟨k + 1, _, _, _, by omega, hat.2.2, hsp.2, hJ, rfl, rfl, hs⟩⟩
    omega
  · -- h10: False
    dsimp only [cmpP] at h10
    refine O_nil (T_sub [(0, _), (2, _), (4, _), (7, _), (8, _), (9, _), (10, _)] ⟨rfl, rfl, rfl, rfl, rfl, rfl, rfl, trivial⟩ ?_)
    refine T_seq (T_condF rfl (T_exit ?_))
    obtain rfl : k = l.length := by omega
    have hsl := piece_last (k := l.length) (by rw [hpl, List.drop_length])
    refine T_region rfl ?_
    refine O_y hs (Y_move rfl ?_)
    refine O_y hs (Y_ldG Try.isAgg23 rfl hbb ?_)
    refine O_y hs (Y_move rfl ?_)
    refine O_y hs (Y_sliceB hb fr b.length Try.underlying23 Try.sizeOf5 rfl ⟨_, _, rfl, rfl⟩ rfl hup.le (by omega) fun s25 hs25 => ?_)
    obtain ⟨A25, c25, rfl, _⟩ := id hs25
    refine O_s (S_yield (H1 := H') (H := []) (by rw [List.append_nil]; exact hs) rfl rfl (hY l.length _ _ _ _ hsl hs.le (Bytes.cast (List.take_of_length_le (by simp)) hs25) hJ) fun v G'' H'' w' hR hG26 hs => ?_)
    obtain ⟨rfl, hJ⟩ := hR
    rw [List.append_nil] at hs
    replace hbc := hbc.mono hG26
    replace hl := hl.mono hG26
    replace hbb := hbb.mono hG26
    replace hb := hb.mono hG26
    replace hs25 := hs25.mono hG26
    refine O_nil (Rt_finN (vs := []) Try.results40 rfl trivial ?_)
    try dsimp only [tup]
    exact ⟨_, _, hs, hJ⟩

set_option maxHeartbeats 400000 in
set_option maxRecDepth 10000 in
theorem split_ok {v v2 : Value} {G : Ghost} {b : List UInt8} {l : List Int} (hb : Bytes G v b) (hl : Ints G v2 l) (hbn : b.length ≤ 100000) (hln : l.length ≤ 1000) :
    FnOk Try.prog 23 [v, v2] G [] fun r G' H' => H' = [] ∧ LBytes G' r (splitF b l) := by
  obtain ⟨A, cap, rfl, hb'⟩ := id hb
  obtain ⟨A1, c1, rfl, hl'⟩ := id hl
  refine FnOk.of_TM [(0, _), (1, _)] Try.func23 rfl Try.ntmps23 (by simp) rfl fun w0 hs => ?_
  have hb0 := hb
  have hl0 := hl
  refine T_seq (T_region rfl ?_)
  refine O_y hs (Y_assign rfl ?_)
  refine O_nil (T_sub [(0, _), (1, _)] ⟨rfl, rfl, trivial⟩ ?_)
  refine T_seq (T_region rfl ?_)
  refine O_y hs (Y_assign rfl ?_)
  refine O_nil (T_sub [(0, _), (1, _), (5, _)] ⟨rfl, rfl, rfl, trivial⟩ ?_)
  refine T_seq (T_seq (T_region rfl ?_))
  refine O_y hs (Y_move rfl ?_)
  refine O_y hs (Y_len Try.underlying24 rfl ?_)
  refine O_y hs (Y_move rfl ?_)
  refine O_nil (T_sub [(0, _), (5, _), (10, _), (11, _), (12, _)] ⟨rfl, rfl, rfl, rfl, rfl, trivial⟩ ?_)
  have hs := hs.nilRow 3 1
  refine T_block (T_loop (fun m E w => ∃ (k : Nat) (v5 : Value) (G' : Ghost), k ≤ l.length ∧ m = l.length - k ∧ E = ⟨[], [(0, (.slice A b.length cap)), (5, v5), (10, (.slice A1 l.length c1)), (11, .int .i64 (l.length : Int)), (12, .int .i64 (k : Int))]⟩ ∧ St ⟨w0, G, feet []⟩ G' [.row 3 1 v5 k ((l.take k).map fun x => .int .i64 ((clampN b.length x : Nat) : Int))] w) (L := [(0, _), (5, _), (10, _), (11, _), (12, _)]) ⟨rfl, rfl, rfl, rfl, rfl, trivial⟩ (⟨0, _, _, by omega, rfl, rfl, hs⟩) fun m E w hI => ?_)
  obtain ⟨k, v5, G', hk, rfl, rfl, hs⟩ := hI
  have hb := hb0.mono hs.le
  have hl := hl0.mono hs.le
  refine T_seq (T_region rfl ?_)
  refine O_y hs (Y_cmpS rfl rfl rfl (fun h13 => ?_) (fun h13 => ?_))
  · -- h13: True
    dsimp only [cmpP] at h13
    refine O_nil (T_sub [(0, _), (5, _), (10, _), (11, _), (12, _), (13, _)] ⟨rfl, rfl, rfl, rfl, rfl, rfl, trivial⟩ ?_)
    refine T_seq (T_condT rfl (T_skip ?_))
    refine T_seq (T_block (T_seq (T_region rfl ?_)))
    refine O_y hs (Y_idxI hl k Try.underlying24 Try.sizeOf3 rfl rfl rfl (by omega) fun p14 hp14 => ?_)
    refine O_y hs (Y_ldG Try.isAgg3 rfl hp14 ?_)
    refine O_y hs (Y_assign rfl ?_)
    refine O_nil (T_sub [(0, _), (5, _), (7, _), (10, _), (11, _), (12, _)] ⟨rfl, rfl, rfl, rfl, rfl, rfl, trivial⟩ ?_)
    refine T_region rfl ?_
    refine O_y hs (Y_move rfl ?_)
    refine O_y hs (Y_move rfl ?_)
    refine O_y hs (Y_max (c := max l[k] 0) rfl rfl (rfl) ?_)
    refine O_y hs (Y_move rfl ?_)
    refine O_y hs (Y_len Try.underlying23 rfl ?_)
    refine O_y hs (Y_min (c := ((clampN b.length l[k] : Nat) : Int)) rfl rfl (clampN_cast _ _) ?_)
    refine O_s (S_lit hs Try.underlying24 Try.sizeOf3 Try.zeroValue3 rfl rfl (by decide) (by decide) rfl (cs := [_]) rfl rfl fun v1 _ hs _ => ?_)
    obtain ⟨_, hG22, hl22, hs⟩ := hs.fixRow noM
    replace hb := hb.mono hG22
    replace hl := hl.mono hG22
    refine O_s (S_append hs Try.underlying24 TI3 rfl (by decide) rfl rfl (hl22) (one1 rfl) (by omega) (by omega) fun v2 _ hs => ?_)
    refine O_y hs (Y_assign rfl ?_)
    refine O_nil (T_sub [(0, _), (5, _), (10, _), (11, _), (12, _)] ⟨rfl, rfl, rfl, rfl, rfl, trivial⟩ ?_)
    refine T_region rfl ?_
    refine O_y hs (Y_add (c := ((k + 1 : Nat) : Int)) rfl rfl (by omega) (by omega) ?_)
    refine O_y hs (Y_move rfl ?_)
    refine O_nil ⟨_, ?_, [(0, _), (5, _), (10, _), (11, _), (12, _)], ⟨rfl, rfl, rfl, rfl, rfl, trivial⟩, ⟨k + 1, _, _, by omega, rfl, rfl, by rw [List.take_succ_eq_append_getElem (by omega), List.map_append]; exact hs⟩⟩
    omega
  · -- h13: False
    dsimp only [cmpP] at h13
    refine O_nil (T_sub [(0, _), (5, _), (10, _), (11, _), (12, _), (13, _)] ⟨rfl, rfl, rfl, rfl, rfl, rfl, trivial⟩ ?_)
    refine T_seq (T_condF rfl (T_exit ?_))
    obtain rfl : k = l.length := by omega
    replace hs : St ⟨w0, G, feet []⟩ G' [.row 3 1 v5 l.length ((l.map fun x => ((clampN b.length x : Nat) : Int)).map (.int .i64))] w := by rw [List.take_length] at hs; rw [List.map_map]; exact hs
    refine T_seq (T_region rfl ?_)
    refine O_y hs (Y_move rfl ?_)
    refine O_s (S_call (H1 := [_]) hs rfl Try.func35 rfl (by kernel_rfl) (sort_ok (by simp) (by simp; omega)) fun v3 G' H' _ hR hG26 hs => ?_)
    obtain ⟨rfl, rfl⟩ := hR
    replace hs : St _ _ [_] _ := hs
    replace hb := hb.mono hG26
    replace hl := hl.mono hG26
    rw [sort_cuts] at hs
    obtain ⟨_, hG0, hcut, hs2⟩ := hs.fixRow noM
    replace hb := hb.mono hG0
    replace hl := hl.mono hG0
    replace hcut := Nats.ofSl (l := cutsN b.length l) hcut (cutsN_len _ _).symm (by rw [List.map_map]; rfl)
    obtain ⟨A5, c5, rfl, _⟩ := id hcut
    have hs := hs2
    refine O_nil (T_sub [(0, _), (5, _)] ⟨rfl, rfl, trivial⟩ ?_)
    refine T_seq (T_region rfl ?_)
    refine O_s (S_alloc hs Try.zeroValue22 (cs := [_]) rfl fun b8 _ hs => ?_)
    refine O_nil (T_sub [(0, _), (5, _), (8, _)] ⟨rfl, rfl, rfl, trivial⟩ ?_)
    have hs := hs.nilRow 23 1
    refine T_seq (T_seq (T_region rfl ?_))
    refine O_y hs (Y_move rfl ?_)
    refine O_y hs (Y_move rfl ?_)
    refine O_s (S_call (H1 := []) hs rfl Try.func36 rfl (by kernel_rfl) (pieces_ok hb hcut) fun v4 G' H' _ hR hG29 hs => ?_)
    obtain ⟨rfl, bc, bb, rfl, hbc, hbb⟩ := hR
    replace hs : St _ _ [_, _] _ := hs
    replace hb := hb.mono hG29
    replace hl := hl.mono hG29
    replace hcut := hcut.mono hG29
    refine O_nil (T_sub [(8, _), (29, _)] ⟨rfl, rfl, trivial⟩ ?_)
    refine T_block (T_rangeFunc (H1 := [_, _]) (H := []) (R := fun G' H2 => ∃ (v : Value) (vs : List Value), H2 = [.row 23 1 v vs.length vs, .blk b8 22 [v]] ∧ LB G' vs (splitF b l)) hs rfl Try.func40 rfl (by kernel_rfl) ?hit ?done)
    case hit =>
      intro lp D rec hp ha hbd hst hpe hAg
      obtain ⟨state, pending, fn', tmps, params, assign, body, defers⟩ := rec
      dsimp only at hp ha hbd hst hpe hAg
      subst hp ha hbd hst hpe
      refine FnOk.mono (pieces1_ok (lp := lp) (J := fun k G' H' => ∃ (v : Value) (vs : List Value), H' = [.obj lp (.loop _), .obj D (.deferred (some [])), .row 23 1 v vs.length vs, .blk b8 22 [v]] ∧ LB G' vs ((splitF b l).take k)) hbc hcut hbb hb (cutsN_up _ _) (by rw [cutsN_len]; omega) ?round ⟨_, [], rfl, LB.nil _⟩) ?fin
      case fin =>
        rintro r G' H' _ ⟨v, vs, rfl, hvs⟩
        exact ⟨_, rfl, v, vs, rfl, by rw [List.take_of_length_le (by rw [splitF_len, cutsN_len]; omega)] at hvs; exact hvs⟩
      rintro k pc G' H' v hpc hle hbv ⟨v8, vs, rfl, hvs⟩
      obtain ⟨Av, cv, rfl, _⟩ := id hbv
      have hk : k < (splitF b l).length := by rw [List.getElem?_eq_some_iff] at hpc; exact hpc.1
      rw [splitF_len] at hk
      have hvl := All2.length hvs
      rw [List.length_take, splitF_len] at hvl
      have hbb' : pc.length ≤ b.length := piecesF_mem_le b (cutsN b.length l) 0 pc (List.mem_of_getElem? hpc)
      refine YieldOk.of_T hAg rfl rfl (by simp) rfl fun w1 hs => ?_
      refine T_region rfl ?_
      refine O_y hs (Y_assign rfl ?_)
      refine O_nil ⟨hs, fun w2 hs => ?_⟩
      refine T_block (T_drawS [0, 1, 2, 3] hs (by kernel_rfl) ?_)
      replace hs := hs.drew
      refine A_take 0 rfl (by kernel_rfl) rfl hs (Y_ld 3 Try.isAgg22 rfl rfl rfl ?_)
      refine A_take 1 rfl (by kernel_rfl) rfl hs (Y_move rfl ?_)
      have hle := hs.le
      refine A_only 2 rfl (by kernel_rfl) rfl (S_call (H1 := []) hs rfl Try.func30 rfl (by kernel_rfl) (clone_ok hbv (by omega)) fun v5 G' H' _ hR hG33 hs => ?_)
      obtain ⟨rfl, hcl⟩ := hR
      obtain ⟨A33, c33, rfl, _⟩ := id hcl
      replace hs : St _ _ [_, _, _, _] _ := hs
      replace hbv := hbv.mono hG33
      replace hvs := hvs.mono hG33
      refine A_moreS hs hle hG33 (List.Sublist.refl _) ?_
      have hle := hs.le
      refine A_only 3 rfl (by kernel_rfl) rfl (S_lit hs Try.underlying22 Try.sizeOf23 Try.zeroValue23 rfl rfl (by decide) (by decide) rfl (cs := [_]) rfl rfl fun v6 _ hs _ => ?_)
      obtain ⟨_, hG34, hl34, hs⟩ := hs.fixRow (noMh hs ⟨fun _ h => h, fun _ h => h, fun _ h => h, fun _ h => h, trivial⟩)
      replace hbv := hbv.mono hG34
      replace hvs := hvs.mono hG34
      replace hcl := hcl.mono hG34
      refine A_moreS hs hle hG34 (List.Sublist.refl _) ?_
      have hs := hs.front 2 rfl (H' := [_, _, _, _]) rfl
      refine A_tail 4 rfl (by kernel_rfl) (by kernel_rfl) rfl (S_append hs Try.underlying22 TI23 rfl (by decide) rfl rfl (hl34) (one1 rfl) (by omega) (by omega) fun v7 _ hs => ?_)
      have hs := hs.front 3 rfl (H' := [_, _, _, _]) rfl
      refine A_tailN 5 rfl (by kernel_rfl) (by kernel_rfl) rfl (S_st hs Try.sizeOf22 rfl rfl (hs.rowOne 1 rfl) (by simp) (cs' := [_]) rfl fun _ hs => ?_)
      have hs := hs.front 1 rfl (H' := [_, _, _, _]) rfl
      have hs := hs.front 3 rfl (H' := [_, _, _, _]) rfl
      have hs := hs.front 3 rfl (H' := [_, _, _, _]) rfl
      refine A_done (by kernel_rfl) ⟨_, _, hs, rfl, _, vs ++ [_], by rw [List.length_append]; rfl, ?_⟩
      rw [List.take_add_one]; rw [show (splitF b l)[k]? = some pc from hpc]; exact hvs.snoc hcl
    case done =>
      rintro lp D o G' H2 w' ⟨v8, vs, rfl, hvs⟩ hle hs
      refine T_seq (T_region rfl ?_)
      refine O_y hs (Y_ld 3 Try.isAgg22 rfl rfl rfl ?_)
      refine O_y hs (Y_assign rfl ?_)
      refine O_nil (T_sub [(4, _)] ⟨rfl, trivial⟩ ?_)
      refine T_ret ?_
      refine RtM_fin hs (vs := [_]) Try.results23 rfl (fun _ hs => ⟨⟨rfl, trivial⟩, ?_⟩)
      try dsimp only [tup]
      have hs := hs.front 1 rfl (H' := [_, _, _]) rfl
      obtain ⟨G', hG, hf, hs3⟩ := hs.fixRow noM
      exact ⟨G', [], hs3.done, rfl, LBytes.of hf (hvs.mono hG)⟩

theorem feed_eq {v v2 : Value} {G : Ghost} {d : Dec} {b : List UInt8} (q : Dec × List (List UInt8) × Int) (hd : DecR G v d) (hb : Bytes G v2 b) (hl : b.length ≤ 100000) (hq : feedF d b = q) :
    FnOk Try.prog 13 [v, v2] G [] fun r G' H' => H' = [] ∧ ∃ dv mv, r = .tuple #[dv, mv, .int .i64 q.2.2] ∧ DecR G' dv q.1 ∧ LBytes G' mv q.2.1 := hq ▸ feed_ok hd hb hl
theorem new_eq {G : Ghost} {n : Int} (q : Dec × Int) (hq : newF n = q) : FnOk Try.prog 15 [.int .i64 n] G [] fun r G' H' => H' = [] ∧ ∃ dv, r = .tuple #[dv, .int .i64 q.2] ∧ DecR G' dv q.1 := hq ▸ new_ok
theorem grant_eq {v : Value} {G : Ghost} {d : Dec} {n : Int} (q : Dec × Int) (hd : DecR G v d) (hq : grantF d n = q) : FnOk Try.prog 17 [v, .int .i64 n] G [] fun r G' H' => H' = [] ∧ ∃ dv, r = .tuple #[dv, .int .i64 q.2] ∧ DecR G' dv q.1 := hq ▸ grant_ok hd
theorem same_eq {v v' : Value} {G : Ghost} {d e : Dec} (hd : DecR G v d) (he : DecR G v' e) (q : Bool) (hq : decide (d = e) = q) : FnOk Try.prog 21 [v, v'] G [] fun r _ H' => H' = [] ∧ r = .bool q := hq ▸ same_ok hd he
theorem sameBytes_eq {v v' : Value} {G : Ghost} {a b : List (List UInt8)} (ha : LBytes G v a) (hb : LBytes G v' b) (hl : a.length ≤ 1000000) (q : Bool) (hq : decide (a = b) = q) : FnOk Try.prog 22 [v, v'] G [] fun r _ H' => H' = [] ∧ r = .bool q := hq ▸ sameBytes_ok ha hb hl


theorem feedR_eq {v v2 : Value} {G : Ghost} {d : Dec} {b : List UInt8} (q : Dec × List (List UInt8) × Int) (hd : DecR G v d) (hb : Bytes G v2 b) (hl : b.length ≤ 100000) (hq : feedF d b = q) :
    FnOk Try.prog 14 [v, v2] G [] fun r G' H' => H' = [] ∧ ∃ dv mv, r = .tuple #[dv, mv, .int .i64 q.2.2] ∧ DecR G' dv q.1 ∧ LBytes G' mv q.2.1 := hq ▸ feedR_ok hd hb hl
theorem newR_eq {G : Ghost} {n : Int} (q : Dec × Int) (hq : newF n = q) : FnOk Try.prog 16 [.int .i64 n] G [] fun r G' H' => H' = [] ∧ ∃ dv, r = .tuple #[dv, .int .i64 q.2] ∧ DecR G' dv q.1 := hq ▸ newR_ok
theorem grantR_eq {v : Value} {G : Ghost} {d : Dec} {n : Int} (q : Dec × Int) (hd : DecR G v d) (hq : grantF d n = q) : FnOk Try.prog 18 [v, .int .i64 n] G [] fun r G' H' => H' = [] ∧ ∃ dv, r = .tuple #[dv, .int .i64 q.2] ∧ DecR G' dv q.1 := hq ▸ grantR_ok hd
theorem run_eq {v v2 : Value} {G : Ghost} {d : Dec} {l : List (List UInt8)} (q : Dec × List (List UInt8) × Int) (hd : DecR G v d) (hl : LBytes G v2 l) (hn : l.length ≤ 1000) (hm : ∀ x ∈ l, x.length ≤ 100000) (hq : runF d l = q) :
    FnOk Try.prog 27 [v, v2] G [] fun r G' H' => H' = [] ∧ ∃ dv mv, r = .tuple #[dv, mv, .int .i64 q.2.2] ∧ DecR G' dv q.1 ∧ LBytes G' mv q.2.1 := hq ▸ run_ok hd hl hn hm


set_option maxHeartbeats 1000000 in
set_option maxRecDepth 10000 in
theorem sanity_ok {G : Ghost} :
    FnOk Try.prog 11 [] G [] fun r _ H' => H' = [] ∧ r = .bool true := by
  refine FnOk.of_T [] Try.func11 rfl Try.ntmps11 (by simp) rfl fun w0 hs => ?_
  refine T_seq (T_region rfl ?_)
  refine O_y hs (Y_assign rfl ?_)
  refine O_nil (T_sub [] trivial ?_)
  refine T_seq (T_region rfl ?_)
  refine O_s (S_lit hs Try.underlying23 Try.sizeOf5 Try.zeroValue5 rfl rfl (by decide) (by decide) rfl (cs := [_, _, _]) rfl rfl fun v1 _ hs shv1 => ?_)
  refine O_s (S_mark hs shv1 rfl Try.underlying23 Try.underlying5 noM fun _ _ hG27 hl27 hs => ?_)
  refine O_s (S_call (H1 := []) hs rfl Try.func19 rfl (by kernel_rfl) (frame_ok (bs := [97, 98, 99]) (Bytes.ofSl (bs := [97, 98, 99]) hl27 rfl rfl) (by decide)) fun v2 G' H' _ hR hG28 hs => ?_)
  obtain ⟨rfl, u28, rfl, hu28⟩ := hR
  replace hs : St _ _ [] _ := hs
  replace hl27 := hl27.mono hG28
  obtain ⟨Au28, cu28, rfl, _⟩ := id hu28
  refine O_y hs (Y_move rfl ?_)
  refine O_y hs (Y_extract rfl rfl ?_)
  refine O_y hs (Y_extract rfl rfl ?_)
  refine O_y hs (Y_assign rfl ?_)
  refine O_y hs (Y_assign rfl ?_)
  refine O_nil (T_sub [(1, _), (2, _)] ⟨rfl, rfl, trivial⟩ ?_)
  refine T_seq (T_region rfl ?_)
  refine O_s (S_call (H1 := []) hs rfl Try.func15 rfl (by kernel_rfl) (new_eq (⟨[], 1, false⟩, 0) (by decide)) fun v3 G' H' _ hR hG32 hs => ?_)
  obtain ⟨rfl, dv32, rfl, u32, rfl, hu32⟩ := hR
  replace hs : St _ _ [] _ := hs
  replace hl27 := hl27.mono hG32
  replace hu28 := hu28.mono hG32
  obtain ⟨Au32, cu32, rfl, _⟩ := id hu32
  refine O_y hs (Y_move rfl ?_)
  refine O_y hs (Y_extract rfl rfl ?_)
  refine O_y hs (Y_extract rfl rfl ?_)
  refine O_s (S_alloc hs Try.zeroValue28 (cs := [_, _, _]) rfl fun b3 _ hs => ?_)
  refine O_n (S_stA hs Try.sizeOf28 rfl rfl (vs := [_, _, _]) rfl rfl (by simp) (cs' := [_, _, _]) rfl fun _ hs => ?_)
  refine O_y hs (Y_assign rfl ?_)
  refine O_nil (T_sub [(1, _), (2, _), (3, _), (4, _)] ⟨rfl, rfl, rfl, rfl, trivial⟩ ?_)
  refine T_seq (T_region rfl ?_)
  refine O_y hs (Y_ldA 0 Try.isAgg28 Try.sizeOf28 rfl rfl (vs := [_, _, _]) rfl rfl ?_)
  refine O_s (S_lit hs Try.underlying23 Try.sizeOf5 Try.zeroValue5 rfl rfl (by decide) (by decide) rfl (cs := [_, _, _, _, _, _]) rfl rfl fun v4 _ hs shv4 => ?_)
  obtain ⟨bv4, rfl⟩ := shv4
  obtain ⟨_, hG37, hl37, hs⟩ := hs.fixRow noM
  replace hl27 := hl27.mono hG37
  replace hu28 := hu28.mono hG37
  replace hu32 := hu32.mono hG37
  refine O_s (S_call (H1 := []) hs rfl Try.func13 rfl (by kernel_rfl) (feed_eq (d := ⟨[], 1, false⟩) (b := [0, 0, 0, 1, 120, 0]) (⟨[0], 0, false⟩, [[120]], 0) ⟨_, rfl, hu32⟩ (Bytes.ofSl (bs := [0, 0, 0, 1, 120, 0]) hl37 rfl rfl) (by decide) (by decide)) fun v5 G' H' _ hR hG38 hs => ?_)
  obtain ⟨rfl, dv38, mv38, rfl, ⟨u38, rfl, hu38⟩, hm38⟩ := hR
  replace hs : St _ _ [_] _ := hs
  replace hl27 := hl27.mono hG38
  replace hu28 := hu28.mono hG38
  replace hu32 := hu32.mono hG38
  replace hl37 := hl37.mono hG38
  obtain ⟨Au38, cu38, rfl, _⟩ := id hu38
  obtain ⟨vs38, hsl38, hvs38⟩ := id hm38
  obtain ⟨A38, c38, rfl, _⟩ := id hsl38
  refine O_y hs (Y_move rfl ?_)
  refine O_y hs (Y_extract rfl rfl ?_)
  refine O_y hs (Y_extract rfl rfl ?_)
  refine O_y hs (Y_extract rfl rfl ?_)
  refine O_s (S_alloc hs Try.zeroValue28 (cs := [_, _, _]) rfl fun b5 _ hs => ?_)
  refine O_n (S_stA hs Try.sizeOf28 rfl rfl (vs := [_, _, _]) rfl rfl (by simp) (cs' := [_, _, _]) rfl fun _ hs => ?_)
  refine O_y hs (Y_assign rfl ?_)
  refine O_y hs (Y_assign rfl ?_)
  refine O_nil (T_sub [(1, _), (2, _), (3, _), (4, _), (5, _), (6, _), (7, _)] ⟨rfl, rfl, rfl, rfl, rfl, rfl, rfl, trivial⟩ ?_)
  refine T_seq (T_region rfl ?_)
  refine O_s (S_call (H1 := []) hs rfl Try.func15 rfl (by kernel_rfl) (new_eq (⟨[], 0, false⟩, 0) (by decide)) fun v6 G' H' _ hR hG43 hs => ?_)
  obtain ⟨rfl, dv43, rfl, u43, rfl, hu43⟩ := hR
  replace hs : St _ _ [_, _] _ := hs
  replace hl27 := hl27.mono hG43
  replace hu28 := hu28.mono hG43
  replace hu32 := hu32.mono hG43
  replace hl37 := hl37.mono hG43
  replace hu38 := hu38.mono hG43
  replace hm38 := hm38.mono hG43
  obtain ⟨Au43, cu43, rfl, _⟩ := id hu43
  refine O_y hs (Y_move rfl ?_)
  refine O_y hs (Y_extract rfl rfl ?_)
  refine O_y hs (Y_extract rfl rfl ?_)
  refine O_s (S_alloc hs Try.zeroValue28 (cs := [_, _, _]) rfl fun b8 _ hs => ?_)
  refine O_n (S_stA hs Try.sizeOf28 rfl rfl (vs := [_, _, _]) rfl rfl (by simp) (cs' := [_, _, _]) rfl fun _ hs => ?_)
  refine O_y hs (Y_assign rfl ?_)
  refine O_nil (T_sub [(1, _), (2, _), (3, _), (4, _), (5, _), (6, _), (7, _), (8, _), (9, _)] ⟨rfl, rfl, rfl, rfl, rfl, rfl, rfl, rfl, rfl, trivial⟩ ?_)
  refine T_seq (T_region rfl ?_)
  refine O_y hs (Y_ldA 0 Try.isAgg28 Try.sizeOf28 rfl rfl (vs := [_, _, _]) rfl rfl ?_)
  refine O_s (S_lit hs Try.underlying23 Try.sizeOf5 Try.zeroValue5 rfl rfl (by decide) (by decide) rfl (cs := [_, _, _]) rfl rfl fun v7 _ hs shv7 => ?_)
  obtain ⟨bv7, rfl⟩ := shv7
  obtain ⟨_, hG48, hl48, hs⟩ := hs.fixRow noM
  replace hl27 := hl27.mono hG48
  replace hu28 := hu28.mono hG48
  replace hu32 := hu32.mono hG48
  replace hl37 := hl37.mono hG48
  replace hu38 := hu38.mono hG48
  replace hm38 := hm38.mono hG48
  replace hu43 := hu43.mono hG48
  refine O_s (S_call (H1 := []) hs rfl Try.func13 rfl (by kernel_rfl) (feed_eq (d := ⟨[], 0, false⟩) (b := [0, 1, 120]) (⟨[0, 1, 120], 0, false⟩, [], 0) ⟨_, rfl, hu43⟩ (Bytes.ofSl (bs := [0, 1, 120]) hl48 rfl rfl) (by decide) (by decide)) fun v8 G' H' _ hR hG49 hs => ?_)
  obtain ⟨rfl, dv49, mv49, rfl, ⟨u49, rfl, hu49⟩, hm49⟩ := hR
  replace hs : St _ _ [_, _, _] _ := hs
  replace hl27 := hl27.mono hG49
  replace hu28 := hu28.mono hG49
  replace hu32 := hu32.mono hG49
  replace hl37 := hl37.mono hG49
  replace hu38 := hu38.mono hG49
  replace hm38 := hm38.mono hG49
  replace hu43 := hu43.mono hG49
  replace hl48 := hl48.mono hG49
  obtain ⟨Au49, cu49, rfl, _⟩ := id hu49
  obtain ⟨vs49, hsl49, hvs49⟩ := id hm49
  obtain ⟨A49, c49, rfl, _⟩ := id hsl49
  refine O_y hs (Y_move rfl ?_)
  refine O_y hs (Y_extract rfl rfl ?_)
  refine O_y hs (Y_extract rfl rfl ?_)
  refine O_y hs (Y_extract rfl rfl ?_)
  refine O_s (S_alloc hs Try.zeroValue28 (cs := [_, _, _]) rfl fun b10 _ hs => ?_)
  refine O_n (S_stA hs Try.sizeOf28 rfl rfl (vs := [_, _, _]) rfl rfl (by simp) (cs' := [_, _, _]) rfl fun _ hs => ?_)
  refine O_y hs (Y_assign rfl ?_)
  refine O_y hs (Y_assign rfl ?_)
  refine O_nil (T_sub [(1, _), (2, _), (3, _), (4, _), (5, _), (6, _), (7, _), (9, _), (10, _), (11, _), (12, _)] ⟨rfl, rfl, rfl, rfl, rfl, rfl, rfl, rfl, rfl, rfl, rfl, trivial⟩ ?_)
  refine T_seq (T_region rfl ?_)
  refine O_y hs (Y_ldA 3 Try.isAgg28 Try.sizeOf28 rfl rfl (vs := [_, _, _]) rfl rfl ?_)
  refine O_s (S_lit hs Try.underlying23 Try.sizeOf5 Try.zeroValue5 rfl rfl (by decide) (by decide) rfl (cs := [_, _, _, _, _, _]) rfl rfl fun v9 _ hs shv9 => ?_)
  obtain ⟨bv9, rfl⟩ := shv9
  obtain ⟨_, hG55, hl55, hs⟩ := hs.fixRow noM
  replace hl27 := hl27.mono hG55
  replace hu28 := hu28.mono hG55
  replace hu32 := hu32.mono hG55
  replace hl37 := hl37.mono hG55
  replace hu38 := hu38.mono hG55
  replace hm38 := hm38.mono hG55
  replace hu43 := hu43.mono hG55
  replace hl48 := hl48.mono hG55
  replace hu49 := hu49.mono hG55
  replace hm49 := hm49.mono hG55
  refine O_s (S_call (H1 := []) hs rfl Try.func13 rfl (by kernel_rfl) (feed_eq (d := ⟨[], 1, false⟩) (b := [0, 1, 121, 16, 1, 7]) (⟨[], 0, true⟩, [[121]], 4) ⟨_, rfl, hu32⟩ (Bytes.ofSl (bs := [0, 1, 121, 16, 1, 7]) hl55 rfl rfl) (by decide) (by decide)) fun v10 G' H' _ hR hG56 hs => ?_)
  obtain ⟨rfl, dv56, mv56, rfl, ⟨u56, rfl, hu56⟩, hm56⟩ := hR
  replace hs : St _ _ [_, _, _, _] _ := hs
  replace hl27 := hl27.mono hG56
  replace hu28 := hu28.mono hG56
  replace hu32 := hu32.mono hG56
  replace hl37 := hl37.mono hG56
  replace hu38 := hu38.mono hG56
  replace hm38 := hm38.mono hG56
  replace hu43 := hu43.mono hG56
  replace hl48 := hl48.mono hG56
  replace hu49 := hu49.mono hG56
  replace hm49 := hm49.mono hG56
  replace hl55 := hl55.mono hG56
  obtain ⟨Au56, cu56, rfl, _⟩ := id hu56
  obtain ⟨vs56, hsl56, hvs56⟩ := id hm56
  obtain ⟨A56, c56, rfl, _⟩ := id hsl56
  refine O_y hs (Y_move rfl ?_)
  refine O_y hs (Y_extract rfl rfl ?_)
  refine O_y hs (Y_extract rfl rfl ?_)
  refine O_y hs (Y_extract rfl rfl ?_)
  refine O_s (S_alloc hs Try.zeroValue28 (cs := [_, _, _]) rfl fun b13 _ hs => ?_)
  refine O_n (S_stA hs Try.sizeOf28 rfl rfl (vs := [_, _, _]) rfl rfl (by simp) (cs' := [_, _, _]) rfl fun _ hs => ?_)
  refine O_y hs (Y_assign rfl ?_)
  refine O_y hs (Y_assign rfl ?_)
  refine O_nil (T_sub [(1, _), (2, _), (3, _), (4, _), (5, _), (6, _), (7, _), (9, _), (10, _), (11, _), (12, _), (13, _), (14, _), (15, _)] ⟨rfl, rfl, rfl, rfl, rfl, rfl, rfl, rfl, rfl, rfl, rfl, rfl, rfl, rfl, trivial⟩ ?_)
  refine T_seq (T_region rfl ?_)
  refine O_y hs (Y_ldA 0 Try.isAgg28 Try.sizeOf28 rfl rfl (vs := [_, _, _]) rfl rfl ?_)
  refine O_s (S_call (H1 := []) hs rfl Try.func13 rfl (by kernel_rfl) (feed_eq (d := ⟨[], 0, true⟩) (b := []) (⟨[], 0, true⟩, [], 7) ⟨_, rfl, hu56⟩ (Sl.nil _ _) (by decide) (by decide)) fun v11 G' H' _ hR hG62 hs => ?_)
  obtain ⟨rfl, dv62, mv62, rfl, ⟨u62, rfl, hu62⟩, hm62⟩ := hR
  replace hs : St _ _ [_, _, _, _, _] _ := hs
  replace hl27 := hl27.mono hG62
  replace hu28 := hu28.mono hG62
  replace hu32 := hu32.mono hG62
  replace hl37 := hl37.mono hG62
  replace hu38 := hu38.mono hG62
  replace hm38 := hm38.mono hG62
  replace hu43 := hu43.mono hG62
  replace hl48 := hl48.mono hG62
  replace hu49 := hu49.mono hG62
  replace hm49 := hm49.mono hG62
  replace hl55 := hl55.mono hG62
  replace hu56 := hu56.mono hG62
  replace hm56 := hm56.mono hG62
  obtain ⟨Au62, cu62, rfl, _⟩ := id hu62
  obtain ⟨vs62, hsl62, hvs62⟩ := id hm62
  obtain ⟨A62, c62, rfl, _⟩ := id hsl62
  refine O_y hs (Y_move rfl ?_)
  refine O_y hs (Y_extract rfl rfl ?_)
  refine O_y hs (Y_extract rfl rfl ?_)
  refine O_y hs (Y_extract rfl rfl ?_)
  refine O_s (S_alloc hs Try.zeroValue28 (cs := [_, _, _]) rfl fun b16 _ hs => ?_)
  refine O_n (S_stA hs Try.sizeOf28 rfl rfl (vs := [_, _, _]) rfl rfl (by simp) (cs' := [_, _, _]) rfl fun _ hs => ?_)
  refine O_y hs (Y_assign rfl ?_)
  refine O_y hs (Y_assign rfl ?_)
  refine O_nil (T_sub [(1, _), (2, _), (3, _), (4, _), (5, _), (6, _), (7, _), (9, _), (10, _), (11, _), (12, _), (13, _), (14, _), (15, _), (18, _)] ⟨rfl, rfl, rfl, rfl, rfl, rfl, rfl, rfl, rfl, rfl, rfl, rfl, rfl, rfl, rfl, trivial⟩ ?_)
  refine T_seq (T_region rfl ?_)
  refine O_s (S_call (H1 := []) hs rfl Try.func15 rfl (by kernel_rfl) (new_eq (⟨[], 0, false⟩, 1) (by decide)) fun v12 G' H' _ hR hG67 hs => ?_)
  obtain ⟨rfl, dv67, rfl, u67, rfl, hu67⟩ := hR
  replace hs : St _ _ [_, _, _, _, _, _] _ := hs
  replace hl27 := hl27.mono hG67
  replace hu28 := hu28.mono hG67
  replace hu32 := hu32.mono hG67
  replace hl37 := hl37.mono hG67
  replace hu38 := hu38.mono hG67
  replace hm38 := hm38.mono hG67
  replace hu43 := hu43.mono hG67
  replace hl48 := hl48.mono hG67
  replace hu49 := hu49.mono hG67
  replace hm49 := hm49.mono hG67
  replace hl55 := hl55.mono hG67
  replace hu56 := hu56.mono hG67
  replace hm56 := hm56.mono hG67
  replace hu62 := hu62.mono hG67
  replace hm62 := hm62.mono hG67
  obtain ⟨Au67, cu67, rfl, _⟩ := id hu67
  refine O_y hs (Y_move rfl ?_)
  refine O_y hs (Y_extract rfl rfl ?_)
  refine O_y hs (Y_extract rfl rfl ?_)
  refine O_s (S_alloc hs Try.zeroValue28 (cs := [_, _, _]) rfl fun b19 _ hs => ?_)
  refine O_n (S_stA hs Try.sizeOf28 rfl rfl (vs := [_, _, _]) rfl rfl (by simp) (cs' := [_, _, _]) rfl fun _ hs => ?_)
  refine O_y hs (Y_assign rfl ?_)
  refine O_nil (T_sub [(1, _), (2, _), (3, _), (4, _), (5, _), (6, _), (7, _), (9, _), (10, _), (11, _), (12, _), (13, _), (14, _), (15, _), (18, _), (20, _)] ⟨rfl, rfl, rfl, rfl, rfl, rfl, rfl, rfl, rfl, rfl, rfl, rfl, rfl, rfl, rfl, rfl, trivial⟩ ?_)
  refine T_seq (T_region rfl ?_)
  refine O_y hs (Y_ldA 6 Try.isAgg28 Try.sizeOf28 rfl rfl (vs := [_, _, _]) rfl rfl ?_)
  refine O_s (S_call (H1 := []) hs rfl Try.func17 rfl (by kernel_rfl) (grant_eq (d := ⟨[], 1, false⟩) (⟨[], 0, false⟩, 1) ⟨_, rfl, hu32⟩ (by decide)) fun v13 G' H' _ hR hG72 hs => ?_)
  obtain ⟨rfl, dv72, rfl, u72, rfl, hu72⟩ := hR
  replace hs : St _ _ [_, _, _, _, _, _, _] _ := hs
  replace hl27 := hl27.mono hG72
  replace hu28 := hu28.mono hG72
  replace hu32 := hu32.mono hG72
  replace hl37 := hl37.mono hG72
  replace hu38 := hu38.mono hG72
  replace hm38 := hm38.mono hG72
  replace hu43 := hu43.mono hG72
  replace hl48 := hl48.mono hG72
  replace hu49 := hu49.mono hG72
  replace hm49 := hm49.mono hG72
  replace hl55 := hl55.mono hG72
  replace hu56 := hu56.mono hG72
  replace hm56 := hm56.mono hG72
  replace hu62 := hu62.mono hG72
  replace hm62 := hm62.mono hG72
  replace hu67 := hu67.mono hG72
  obtain ⟨Au72, cu72, rfl, _⟩ := id hu72
  refine O_y hs (Y_move rfl ?_)
  refine O_y hs (Y_extract rfl rfl ?_)
  refine O_y hs (Y_extract rfl rfl ?_)
  refine O_s (S_alloc hs Try.zeroValue28 (cs := [_, _, _]) rfl fun b21 _ hs => ?_)
  refine O_n (S_stA hs Try.sizeOf28 rfl rfl (vs := [_, _, _]) rfl rfl (by simp) (cs' := [_, _, _]) rfl fun _ hs => ?_)
  refine O_y hs (Y_assign rfl ?_)
  refine O_nil (T_sub [(1, _), (2, _), (4, _), (5, _), (6, _), (7, _), (9, _), (10, _), (11, _), (12, _), (13, _), (14, _), (15, _), (18, _), (20, _), (22, _)] ⟨rfl, rfl, rfl, rfl, rfl, rfl, rfl, rfl, rfl, rfl, rfl, rfl, rfl, rfl, rfl, rfl, trivial⟩ ?_)
  refine T_seq (T_region rfl ?_)
  refine O_s (S_make (n := 4097) (m := 4097) hs Try.underlying23 TI5 rfl rfl rfl (by omega) (by omega) (by omega) fun b76 _ hs => ?_)
  obtain ⟨_, hG76, hl76, hs⟩ := hs.fixRow noM
  replace hl27 := hl27.mono hG76
  replace hu28 := hu28.mono hG76
  replace hu32 := hu32.mono hG76
  replace hl37 := hl37.mono hG76
  replace hu38 := hu38.mono hG76
  replace hm38 := hm38.mono hG76
  replace hu43 := hu43.mono hG76
  replace hl48 := hl48.mono hG76
  replace hu49 := hu49.mono hG76
  replace hm49 := hm49.mono hG76
  replace hl55 := hl55.mono hG76
  replace hu56 := hu56.mono hG76
  replace hm56 := hm56.mono hG76
  replace hu62 := hu62.mono hG76
  replace hm62 := hm62.mono hG76
  replace hu67 := hu67.mono hG76
  replace hu72 := hu72.mono hG76
  replace hl76 := Bytes.ofSl (bs := List.replicate 4097 0) hl76 (by rw [List.length_replicate]) (by rw [List.map_replicate]; rfl)
  refine O_s (S_call (H1 := []) hs rfl Try.func19 rfl (by kernel_rfl) (frame_big hl76 (by rw [List.length_replicate]; decide)) fun v14 G' H' _ hR hG77 hs => ?_)
  obtain ⟨rfl, rfl⟩ := hR
  replace hs : St _ _ [_, _, _, _, _, _, _, _] _ := hs
  replace hl27 := hl27.mono hG77
  replace hu28 := hu28.mono hG77
  replace hu32 := hu32.mono hG77
  replace hl37 := hl37.mono hG77
  replace hu38 := hu38.mono hG77
  replace hm38 := hm38.mono hG77
  replace hu43 := hu43.mono hG77
  replace hl48 := hl48.mono hG77
  replace hu49 := hu49.mono hG77
  replace hm49 := hm49.mono hG77
  replace hl55 := hl55.mono hG77
  replace hu56 := hu56.mono hG77
  replace hm56 := hm56.mono hG77
  replace hu62 := hu62.mono hG77
  replace hm62 := hm62.mono hG77
  replace hu67 := hu67.mono hG77
  replace hu72 := hu72.mono hG77
  replace hl76 := hl76.mono hG77
  refine O_y hs (Y_move rfl ?_)
  refine O_y hs (Y_extract rfl rfl ?_)
  refine O_y hs (Y_extract rfl rfl ?_)
  refine O_y hs (Y_assign rfl ?_)
  refine O_y hs (Y_assign rfl ?_)
  refine O_nil (T_sub [(1, _), (2, _), (4, _), (5, _), (6, _), (7, _), (9, _), (10, _), (11, _), (12, _), (13, _), (14, _), (15, _), (18, _), (20, _), (22, _), (24, _)] ⟨rfl, rfl, rfl, rfl, rfl, rfl, rfl, rfl, rfl, rfl, rfl, rfl, rfl, rfl, rfl, rfl, rfl, trivial⟩ ?_)
  refine T_seq (T_region rfl ?_)
  refine O_y hs (Y_move rfl ?_)
  refine O_y hs (Y_cmpT rfl rfl rfl (rfl) ?_)
  refine O_y hs (Y_move rfl ?_)
  refine O_yy 82 hs rfl rfl (Y_move rfl ?_)
  refine O_yy 82 hs rfl rfl (Y_str Try.underlying23 Try.underlying5 Try.underlying9 rfl hu28 ?_)
  refine O_yy 82 hs rfl rfl (Y_strEq rfl rfl (b := true) (by decide) ?_)
  refine O_y hs (Y_pickT rfl rfl ?_)
  refine O_y hs (Y_move rfl ?_)
  refine O_yy 87 hs rfl rfl (Y_move rfl ?_)
  refine O_yy 87 hs rfl rfl (Y_cmpT rfl rfl rfl (rfl) ?_)
  refine O_y hs (Y_pickT rfl rfl ?_)
  refine O_y hs (Y_move rfl ?_)
  refine O_yy 91 hs rfl rfl (Y_move rfl ?_)
  refine O_yy 91 hs rfl rfl (Y_cmpT rfl rfl rfl (rfl) ?_)
  refine O_y hs (Y_pickT rfl rfl ?_)
  refine O_y hs (Y_move rfl ?_)
  refine O_yy 95 hs rfl rfl (Y_move rfl ?_)
  refine O_yes 95 rfl rfl (S_lit hs Try.underlying23 Try.sizeOf5 Try.zeroValue5 rfl rfl (by decide) (by decide) rfl (cs := [_]) rfl rfl fun v15 _ hs shv15 => ?_)
  obtain ⟨bv15, rfl⟩ := shv15
  obtain ⟨_, hG97, hl97, hs⟩ := hs.fixRow noM
  replace hl27 := hl27.mono hG97
  replace hu28 := hu28.mono hG97
  replace hu32 := hu32.mono hG97
  replace hl37 := hl37.mono hG97
  replace hu38 := hu38.mono hG97
  replace hm38 := hm38.mono hG97
  replace hu43 := hu43.mono hG97
  replace hl48 := hl48.mono hG97
  replace hu49 := hu49.mono hG97
  replace hm49 := hm49.mono hG97
  replace hl55 := hl55.mono hG97
  replace hu56 := hu56.mono hG97
  replace hm56 := hm56.mono hG97
  replace hu62 := hu62.mono hG97
  replace hm62 := hm62.mono hG97
  replace hu67 := hu67.mono hG97
  replace hu72 := hu72.mono hG97
  replace hl76 := hl76.mono hG97
  refine O_yes 95 rfl rfl (S_lit hs Try.underlying22 Try.sizeOf23 Try.zeroValue23 rfl rfl (by decide) (by decide) rfl (cs := [_]) rfl rfl fun v16 _ hs shv16 => ?_)
  obtain ⟨bv16, rfl⟩ := shv16
  obtain ⟨_, hG98, hl98, hs⟩ := hs.fixRow noM
  replace hl27 := hl27.mono hG98
  replace hu28 := hu28.mono hG98
  replace hu32 := hu32.mono hG98
  replace hl37 := hl37.mono hG98
  replace hu38 := hu38.mono hG98
  replace hm38 := hm38.mono hG98
  replace hu43 := hu43.mono hG98
  replace hl48 := hl48.mono hG98
  replace hu49 := hu49.mono hG98
  replace hm49 := hm49.mono hG98
  replace hl55 := hl55.mono hG98
  replace hu56 := hu56.mono hG98
  replace hm56 := hm56.mono hG98
  replace hu62 := hu62.mono hG98
  replace hm62 := hm62.mono hG98
  replace hu67 := hu67.mono hG98
  replace hu72 := hu72.mono hG98
  replace hl76 := hl76.mono hG98
  replace hl97 := hl97.mono hG98
  refine O_yes 95 rfl rfl (S_call (H1 := []) hs rfl Try.func22 rfl (by kernel_rfl) (sameBytes_eq hm38 (LBytes.ofSl (l := [[120]]) hl98 rfl ⟨(Bytes.ofSl (bs := [120]) hl97 rfl rfl), trivial⟩) (by decide) true (by decide)) fun v17 G' H' _ hR hG99 hs => ?_)
  obtain ⟨rfl, rfl⟩ := hR
  replace hs : St _ _ [_, _, _, _, _, _, _, _] _ := hs
  replace hl27 := hl27.mono hG99
  replace hu28 := hu28.mono hG99
  replace hu32 := hu32.mono hG99
  replace hl37 := hl37.mono hG99
  replace hu38 := hu38.mono hG99
  replace hm38 := hm38.mono hG99
  replace hu43 := hu43.mono hG99
  replace hl48 := hl48.mono hG99
  replace hu49 := hu49.mono hG99
  replace hm49 := hm49.mono hG99
  replace hl55 := hl55.mono hG99
  replace hu56 := hu56.mono hG99
  replace hm56 := hm56.mono hG99
  replace hu62 := hu62.mono hG99
  replace hm62 := hm62.mono hG99
  replace hu67 := hu67.mono hG99
  replace hu72 := hu72.mono hG99
  replace hl76 := hl76.mono hG99
  replace hl97 := hl97.mono hG99
  replace hl98 := hl98.mono hG99
  refine O_y hs (Y_pickT rfl rfl ?_)
  refine O_y hs (Y_move rfl ?_)
  refine O_yy 101 hs rfl rfl (Y_ldA 6 Try.isAgg28 Try.sizeOf28 rfl rfl (vs := [_, _, _]) rfl rfl ?_)
  refine O_yes 101 rfl rfl (S_lit hs Try.underlying23 Try.sizeOf5 Try.zeroValue5 rfl rfl (by decide) (by decide) rfl (cs := [_]) rfl rfl fun v18 _ hs shv18 => ?_)
  obtain ⟨bv18, rfl⟩ := shv18
  obtain ⟨_, hG103, hl103, hs⟩ := hs.fixRow noM
  replace hl27 := hl27.mono hG103
  replace hu28 := hu28.mono hG103
  replace hu32 := hu32.mono hG103
  replace hl37 := hl37.mono hG103
  replace hu38 := hu38.mono hG103
  replace hm38 := hm38.mono hG103
  replace hu43 := hu43.mono hG103
  replace hl48 := hl48.mono hG103
  replace hu49 := hu49.mono hG103
  replace hm49 := hm49.mono hG103
  replace hl55 := hl55.mono hG103
  replace hu56 := hu56.mono hG103
  replace hm56 := hm56.mono hG103
  replace hu62 := hu62.mono hG103
  replace hm62 := hm62.mono hG103
  replace hu67 := hu67.mono hG103
  replace hu72 := hu72.mono hG103
  replace hl76 := hl76.mono hG103
  replace hl97 := hl97.mono hG103
  replace hl98 := hl98.mono hG103
  refine O_yy 101 hs rfl rfl (Y_build Try.zeroValue28 rfl PL28 rfl (cs := [_, _, _]) rfl ?_)
  refine O_yes 101 rfl rfl (S_call (H1 := []) hs rfl Try.func21 rfl (by kernel_rfl) (same_eq (d := ⟨[0], 0, false⟩) (e := ⟨[0], 0, false⟩) ⟨_, rfl, hu38⟩ ⟨_, rfl, (Bytes.ofSl (bs := [0]) hl103 rfl rfl)⟩ true (by decide)) fun v19 G' H' _ hR hG105 hs => ?_)
  obtain ⟨rfl, rfl⟩ := hR
  replace hs : St _ _ [_, _, _, _, _, _, _, _] _ := hs
  replace hl27 := hl27.mono hG105
  replace hu28 := hu28.mono hG105
  replace hu32 := hu32.mono hG105
  replace hl37 := hl37.mono hG105
  replace hu38 := hu38.mono hG105
  replace hm38 := hm38.mono hG105
  replace hu43 := hu43.mono hG105
  replace hl48 := hl48.mono hG105
  replace hu49 := hu49.mono hG105
  replace hm49 := hm49.mono hG105
  replace hl55 := hl55.mono hG105
  replace hu56 := hu56.mono hG105
  replace hm56 := hm56.mono hG105
  replace hu62 := hu62.mono hG105
  replace hm62 := hm62.mono hG105
  replace hu67 := hu67.mono hG105
  replace hu72 := hu72.mono hG105
  replace hl76 := hl76.mono hG105
  replace hl97 := hl97.mono hG105
  replace hl98 := hl98.mono hG105
  replace hl103 := hl103.mono hG105
  refine O_y hs (Y_pickT rfl rfl ?_)
  refine O_y hs (Y_move rfl ?_)
  refine O_yy 107 hs rfl rfl (Y_move rfl ?_)
  refine O_yy 107 hs rfl rfl (Y_cmpT rfl rfl rfl (rfl) ?_)
  refine O_y hs (Y_pickT rfl rfl ?_)
  refine O_y hs (Y_move rfl ?_)
  refine O_yy 111 hs rfl rfl (Y_move rfl ?_)
  refine O_yy 111 hs rfl rfl (Y_cmpT rfl rfl rfl (rfl) ?_)
  refine O_y hs (Y_pickT rfl rfl ?_)
  refine O_y hs (Y_move rfl ?_)
  refine O_yy 115 hs rfl rfl (Y_move rfl ?_)
  refine O_yy 115 hs rfl rfl (Y_len Try.underlying22 rfl ?_)
  refine O_yy 115 hs rfl rfl (Y_cmpT rfl rfl rfl (rfl) ?_)
  refine O_y hs (Y_pickT rfl rfl ?_)
  refine O_y hs (Y_move rfl ?_)
  refine O_yy 120 hs rfl rfl (Y_ldA 4 Try.isAgg28 Try.sizeOf28 rfl rfl (vs := [_, _, _]) rfl rfl ?_)
  refine O_yes 120 rfl rfl (S_lit hs Try.underlying23 Try.sizeOf5 Try.zeroValue5 rfl rfl (by decide) (by decide) rfl (cs := [_, _, _]) rfl rfl fun v20 _ hs shv20 => ?_)
  obtain ⟨bv20, rfl⟩ := shv20
  obtain ⟨_, hG122, hl122, hs⟩ := hs.fixRow noM
  replace hl27 := hl27.mono hG122
  replace hu28 := hu28.mono hG122
  replace hu32 := hu32.mono hG122
  replace hl37 := hl37.mono hG122
  replace hu38 := hu38.mono hG122
  replace hm38 := hm38.mono hG122
  replace hu43 := hu43.mono hG122
  replace hl48 := hl48.mono hG122
  replace hu49 := hu49.mono hG122
  replace hm49 := hm49.mono hG122
  replace hl55 := hl55.mono hG122
  replace hu56 := hu56.mono hG122
  replace hm56 := hm56.mono hG122
  replace hu62 := hu62.mono hG122
  replace hm62 := hm62.mono hG122
  replace hu67 := hu67.mono hG122
  replace hu72 := hu72.mono hG122
  replace hl76 := hl76.mono hG122
  replace hl97 := hl97.mono hG122
  replace hl98 := hl98.mono hG122
  replace hl103 := hl103.mono hG122
  refine O_yy 120 hs rfl rfl (Y_build Try.zeroValue28 rfl PL28 rfl (cs := [_, _, _]) rfl ?_)
  refine O_yes 120 rfl rfl (S_call (H1 := []) hs rfl Try.func21 rfl (by kernel_rfl) (same_eq (d := ⟨[0, 1, 120], 0, false⟩) (e := ⟨[0, 1, 120], 0, false⟩) ⟨_, rfl, hu49⟩ ⟨_, rfl, (Bytes.ofSl (bs := [0, 1, 120]) hl122 rfl rfl)⟩ true (by decide)) fun v21 G' H' _ hR hG124 hs => ?_)
  obtain ⟨rfl, rfl⟩ := hR
  replace hs : St _ _ [_, _, _, _, _, _, _, _] _ := hs
  replace hl27 := hl27.mono hG124
  replace hu28 := hu28.mono hG124
  replace hu32 := hu32.mono hG124
  replace hl37 := hl37.mono hG124
  replace hu38 := hu38.mono hG124
  replace hm38 := hm38.mono hG124
  replace hu43 := hu43.mono hG124
  replace hl48 := hl48.mono hG124
  replace hu49 := hu49.mono hG124
  replace hm49 := hm49.mono hG124
  replace hl55 := hl55.mono hG124
  replace hu56 := hu56.mono hG124
  replace hm56 := hm56.mono hG124
  replace hu62 := hu62.mono hG124
  replace hm62 := hm62.mono hG124
  replace hu67 := hu67.mono hG124
  replace hu72 := hu72.mono hG124
  replace hl76 := hl76.mono hG124
  replace hl97 := hl97.mono hG124
  replace hl98 := hl98.mono hG124
  replace hl103 := hl103.mono hG124
  replace hl122 := hl122.mono hG124
  refine O_y hs (Y_pickT rfl rfl ?_)
  refine O_y hs (Y_move rfl ?_)
  refine O_yy 126 hs rfl rfl (Y_move rfl ?_)
  refine O_yy 126 hs rfl rfl (Y_cmpT rfl rfl rfl (rfl) ?_)
  refine O_y hs (Y_pickT rfl rfl ?_)
  refine O_y hs (Y_move rfl ?_)
  refine O_yy 130 hs rfl rfl (Y_fieldAddr FO28_2 rfl (m := 2) rfl ?_)
  refine O_yy 130 hs rfl rfl (Y_ld 3 Try.isAgg4 rfl rfl rfl ?_)
  refine O_y hs (Y_pickT rfl rfl ?_)
  refine O_y hs (Y_move rfl ?_)
  refine O_yy 134 hs rfl rfl (Y_move rfl ?_)
  refine O_yes 134 rfl rfl (S_lit hs Try.underlying23 Try.sizeOf5 Try.zeroValue5 rfl rfl (by decide) (by decide) rfl (cs := [_]) rfl rfl fun v22 _ hs shv22 => ?_)
  obtain ⟨bv22, rfl⟩ := shv22
  obtain ⟨_, hG136, hl136, hs⟩ := hs.fixRow noM
  replace hl27 := hl27.mono hG136
  replace hu28 := hu28.mono hG136
  replace hu32 := hu32.mono hG136
  replace hl37 := hl37.mono hG136
  replace hu38 := hu38.mono hG136
  replace hm38 := hm38.mono hG136
  replace hu43 := hu43.mono hG136
  replace hl48 := hl48.mono hG136
  replace hu49 := hu49.mono hG136
  replace hm49 := hm49.mono hG136
  replace hl55 := hl55.mono hG136
  replace hu56 := hu56.mono hG136
  replace hm56 := hm56.mono hG136
  replace hu62 := hu62.mono hG136
  replace hm62 := hm62.mono hG136
  replace hu67 := hu67.mono hG136
  replace hu72 := hu72.mono hG136
  replace hl76 := hl76.mono hG136
  replace hl97 := hl97.mono hG136
  replace hl98 := hl98.mono hG136
  replace hl103 := hl103.mono hG136
  replace hl122 := hl122.mono hG136
  refine O_yes 134 rfl rfl (S_lit hs Try.underlying22 Try.sizeOf23 Try.zeroValue23 rfl rfl (by decide) (by decide) rfl (cs := [_]) rfl rfl fun v23 _ hs shv23 => ?_)
  obtain ⟨bv23, rfl⟩ := shv23
  obtain ⟨_, hG137, hl137, hs⟩ := hs.fixRow noM
  replace hl27 := hl27.mono hG137
  replace hu28 := hu28.mono hG137
  replace hu32 := hu32.mono hG137
  replace hl37 := hl37.mono hG137
  replace hu38 := hu38.mono hG137
  replace hm38 := hm38.mono hG137
  replace hu43 := hu43.mono hG137
  replace hl48 := hl48.mono hG137
  replace hu49 := hu49.mono hG137
  replace hm49 := hm49.mono hG137
  replace hl55 := hl55.mono hG137
  replace hu56 := hu56.mono hG137
  replace hm56 := hm56.mono hG137
  replace hu62 := hu62.mono hG137
  replace hm62 := hm62.mono hG137
  replace hu67 := hu67.mono hG137
  replace hu72 := hu72.mono hG137
  replace hl76 := hl76.mono hG137
  replace hl97 := hl97.mono hG137
  replace hl98 := hl98.mono hG137
  replace hl103 := hl103.mono hG137
  replace hl122 := hl122.mono hG137
  replace hl136 := hl136.mono hG137
  refine O_yes 134 rfl rfl (S_call (H1 := []) hs rfl Try.func22 rfl (by kernel_rfl) (sameBytes_eq hm56 (LBytes.ofSl (l := [[121]]) hl137 rfl ⟨(Bytes.ofSl (bs := [121]) hl136 rfl rfl), trivial⟩) (by decide) true (by decide)) fun v24 G' H' _ hR hG138 hs => ?_)
  obtain ⟨rfl, rfl⟩ := hR
  replace hs : St _ _ [_, _, _, _, _, _, _, _] _ := hs
  replace hl27 := hl27.mono hG138
  replace hu28 := hu28.mono hG138
  replace hu32 := hu32.mono hG138
  replace hl37 := hl37.mono hG138
  replace hu38 := hu38.mono hG138
  replace hm38 := hm38.mono hG138
  replace hu43 := hu43.mono hG138
  replace hl48 := hl48.mono hG138
  replace hu49 := hu49.mono hG138
  replace hm49 := hm49.mono hG138
  replace hl55 := hl55.mono hG138
  replace hu56 := hu56.mono hG138
  replace hm56 := hm56.mono hG138
  replace hu62 := hu62.mono hG138
  replace hm62 := hm62.mono hG138
  replace hu67 := hu67.mono hG138
  replace hu72 := hu72.mono hG138
  replace hl76 := hl76.mono hG138
  replace hl97 := hl97.mono hG138
  replace hl98 := hl98.mono hG138
  replace hl103 := hl103.mono hG138
  replace hl122 := hl122.mono hG138
  replace hl136 := hl136.mono hG138
  replace hl137 := hl137.mono hG138
  refine O_y hs (Y_pickT rfl rfl ?_)
  refine O_y hs (Y_move rfl ?_)
  refine O_yy 140 hs rfl rfl (Y_move rfl ?_)
  refine O_yy 140 hs rfl rfl (Y_cmpT rfl rfl rfl (rfl) ?_)
  refine O_y hs (Y_pickT rfl rfl ?_)
  refine O_y hs (Y_move rfl ?_)
  refine O_yy 144 hs rfl rfl (Y_move rfl ?_)
  refine O_yy 144 hs rfl rfl (Y_cmpT rfl rfl rfl (rfl) ?_)
  refine O_y hs (Y_pickT rfl rfl ?_)
  refine O_y hs (Y_move rfl ?_)
  refine O_yy 148 hs rfl rfl (Y_move rfl ?_)
  refine O_yy 148 hs rfl rfl (Y_cmpT rfl rfl rfl (rfl) ?_)
  refine O_y hs (Y_pickT rfl rfl ?_)
  refine O_y hs (Y_move rfl ?_)
  refine O_yy 152 hs rfl rfl (Y_move rfl ?_)
  refine O_yy 152 hs rfl rfl (Y_cmpT rfl rfl rfl (rfl) ?_)
  refine O_y hs (Y_pickT rfl rfl ?_)
  refine O_y hs (Y_move rfl ?_)
  refine O_yes 156 rfl rfl (S_lit hs Try.underlying23 Try.sizeOf5 Try.zeroValue5 rfl rfl (by decide) (by decide) rfl (cs := [_, _, _]) rfl rfl fun v25 _ hs shv25 => ?_)
  refine O_yes 156 rfl rfl (S_mark hs shv25 rfl Try.underlying23 Try.underlying5 noM fun _ _ hG158 hl158 hs => ?_)
  replace hl27 := hl27.mono hG158
  replace hu28 := hu28.mono hG158
  replace hu32 := hu32.mono hG158
  replace hl37 := hl37.mono hG158
  replace hu38 := hu38.mono hG158
  replace hm38 := hm38.mono hG158
  replace hu43 := hu43.mono hG158
  replace hl48 := hl48.mono hG158
  replace hu49 := hu49.mono hG158
  replace hm49 := hm49.mono hG158
  replace hl55 := hl55.mono hG158
  replace hu56 := hu56.mono hG158
  replace hm56 := hm56.mono hG158
  replace hu62 := hu62.mono hG158
  replace hm62 := hm62.mono hG158
  replace hu67 := hu67.mono hG158
  replace hu72 := hu72.mono hG158
  replace hl76 := hl76.mono hG158
  replace hl97 := hl97.mono hG158
  replace hl98 := hl98.mono hG158
  replace hl103 := hl103.mono hG158
  replace hl122 := hl122.mono hG158
  replace hl136 := hl136.mono hG158
  replace hl137 := hl137.mono hG158
  refine O_yes 156 rfl rfl (S_lit hs Try.underlying24 Try.sizeOf3 Try.zeroValue3 rfl rfl (by decide) (by decide) rfl (cs := [_, _, _]) rfl rfl fun v26 _ hs shv26 => ?_)
  obtain ⟨bv26, rfl⟩ := shv26
  obtain ⟨_, hG159, hl159, hs⟩ := hs.fixRow noM
  replace hl27 := hl27.mono hG159
  replace hu28 := hu28.mono hG159
  replace hu32 := hu32.mono hG159
  replace hl37 := hl37.mono hG159
  replace hu38 := hu38.mono hG159
  replace hm38 := hm38.mono hG159
  replace hu43 := hu43.mono hG159
  replace hl48 := hl48.mono hG159
  replace hu49 := hu49.mono hG159
  replace hm49 := hm49.mono hG159
  replace hl55 := hl55.mono hG159
  replace hu56 := hu56.mono hG159
  replace hm56 := hm56.mono hG159
  replace hu62 := hu62.mono hG159
  replace hm62 := hm62.mono hG159
  replace hu67 := hu67.mono hG159
  replace hu72 := hu72.mono hG159
  replace hl76 := hl76.mono hG159
  replace hl97 := hl97.mono hG159
  replace hl98 := hl98.mono hG159
  replace hl103 := hl103.mono hG159
  replace hl122 := hl122.mono hG159
  replace hl136 := hl136.mono hG159
  replace hl137 := hl137.mono hG159
  replace hl158 := hl158.mono hG159
  refine O_yes 156 rfl rfl (S_call (H1 := []) hs rfl Try.func23 rfl (by kernel_rfl) (split_ok (b := [97, 98, 99]) (l := [2, 1, 9]) (Bytes.ofSl (bs := [97, 98, 99]) hl158 rfl rfl) (show Ints _ _ [2, 1, 9] from hl159) (by decide) (by decide)) fun v27 G' H' _ hR hG160 hs => ?_)
  obtain ⟨rfl, hsp⟩ := hR
  replace hs : St _ _ [_, _, _, _, _, _, _, _] _ := hs
  replace hl27 := hl27.mono hG160
  replace hu28 := hu28.mono hG160
  replace hu32 := hu32.mono hG160
  replace hl37 := hl37.mono hG160
  replace hu38 := hu38.mono hG160
  replace hm38 := hm38.mono hG160
  replace hu43 := hu43.mono hG160
  replace hl48 := hl48.mono hG160
  replace hu49 := hu49.mono hG160
  replace hm49 := hm49.mono hG160
  replace hl55 := hl55.mono hG160
  replace hu56 := hu56.mono hG160
  replace hm56 := hm56.mono hG160
  replace hu62 := hu62.mono hG160
  replace hm62 := hm62.mono hG160
  replace hu67 := hu67.mono hG160
  replace hu72 := hu72.mono hG160
  replace hl76 := hl76.mono hG160
  replace hl97 := hl97.mono hG160
  replace hl98 := hl98.mono hG160
  replace hl103 := hl103.mono hG160
  replace hl122 := hl122.mono hG160
  replace hl136 := hl136.mono hG160
  replace hl137 := hl137.mono hG160
  replace hl158 := hl158.mono hG160
  replace hl159 := hl159.mono hG160
  refine O_yes 156 rfl rfl (S_lit hs Try.underlying23 Try.sizeOf5 Try.zeroValue5 rfl rfl (by decide) (by decide) rfl (cs := [_]) rfl rfl fun v28 _ hs shv28 => ?_)
  obtain ⟨bv28, rfl⟩ := shv28
  obtain ⟨_, hG161, hl161, hs⟩ := hs.fixRow noM
  replace hl27 := hl27.mono hG161
  replace hu28 := hu28.mono hG161
  replace hu32 := hu32.mono hG161
  replace hl37 := hl37.mono hG161
  replace hu38 := hu38.mono hG161
  replace hm38 := hm38.mono hG161
  replace hu43 := hu43.mono hG161
  replace hl48 := hl48.mono hG161
  replace hu49 := hu49.mono hG161
  replace hm49 := hm49.mono hG161
  replace hl55 := hl55.mono hG161
  replace hu56 := hu56.mono hG161
  replace hm56 := hm56.mono hG161
  replace hu62 := hu62.mono hG161
  replace hm62 := hm62.mono hG161
  replace hu67 := hu67.mono hG161
  replace hu72 := hu72.mono hG161
  replace hl76 := hl76.mono hG161
  replace hl97 := hl97.mono hG161
  replace hl98 := hl98.mono hG161
  replace hl103 := hl103.mono hG161
  replace hl122 := hl122.mono hG161
  replace hl136 := hl136.mono hG161
  replace hl137 := hl137.mono hG161
  replace hl158 := hl158.mono hG161
  replace hl159 := hl159.mono hG161
  replace hsp := hsp.mono hG161
  refine O_yes 156 rfl rfl (S_lit hs Try.underlying23 Try.sizeOf5 Try.zeroValue5 rfl rfl (by decide) (by decide) rfl (cs := [_]) rfl rfl fun v29 _ hs shv29 => ?_)
  obtain ⟨bv29, rfl⟩ := shv29
  obtain ⟨_, hG162, hl162, hs⟩ := hs.fixRow noM
  replace hl27 := hl27.mono hG162
  replace hu28 := hu28.mono hG162
  replace hu32 := hu32.mono hG162
  replace hl37 := hl37.mono hG162
  replace hu38 := hu38.mono hG162
  replace hm38 := hm38.mono hG162
  replace hu43 := hu43.mono hG162
  replace hl48 := hl48.mono hG162
  replace hu49 := hu49.mono hG162
  replace hm49 := hm49.mono hG162
  replace hl55 := hl55.mono hG162
  replace hu56 := hu56.mono hG162
  replace hm56 := hm56.mono hG162
  replace hu62 := hu62.mono hG162
  replace hm62 := hm62.mono hG162
  replace hu67 := hu67.mono hG162
  replace hu72 := hu72.mono hG162
  replace hl76 := hl76.mono hG162
  replace hl97 := hl97.mono hG162
  replace hl98 := hl98.mono hG162
  replace hl103 := hl103.mono hG162
  replace hl122 := hl122.mono hG162
  replace hl136 := hl136.mono hG162
  replace hl137 := hl137.mono hG162
  replace hl158 := hl158.mono hG162
  replace hl159 := hl159.mono hG162
  replace hsp := hsp.mono hG162
  replace hl161 := hl161.mono hG162
  refine O_yes 156 rfl rfl (S_lit hs Try.underlying23 Try.sizeOf5 Try.zeroValue5 rfl rfl (by decide) (by decide) rfl (cs := [_]) rfl rfl fun v30 _ hs shv30 => ?_)
  obtain ⟨bv30, rfl⟩ := shv30
  obtain ⟨_, hG163, hl163, hs⟩ := hs.fixRow noM
  replace hl27 := hl27.mono hG163
  replace hu28 := hu28.mono hG163
  replace hu32 := hu32.mono hG163
  replace hl37 := hl37.mono hG163
  replace hu38 := hu38.mono hG163
  replace hm38 := hm38.mono hG163
  replace hu43 := hu43.mono hG163
  replace hl48 := hl48.mono hG163
  replace hu49 := hu49.mono hG163
  replace hm49 := hm49.mono hG163
  replace hl55 := hl55.mono hG163
  replace hu56 := hu56.mono hG163
  replace hm56 := hm56.mono hG163
  replace hu62 := hu62.mono hG163
  replace hm62 := hm62.mono hG163
  replace hu67 := hu67.mono hG163
  replace hu72 := hu72.mono hG163
  replace hl76 := hl76.mono hG163
  replace hl97 := hl97.mono hG163
  replace hl98 := hl98.mono hG163
  replace hl103 := hl103.mono hG163
  replace hl122 := hl122.mono hG163
  replace hl136 := hl136.mono hG163
  replace hl137 := hl137.mono hG163
  replace hl158 := hl158.mono hG163
  replace hl159 := hl159.mono hG163
  replace hsp := hsp.mono hG163
  replace hl161 := hl161.mono hG163
  replace hl162 := hl162.mono hG163
  refine O_yes 156 rfl rfl (S_lit hs Try.underlying23 Try.sizeOf5 Try.zeroValue5 rfl rfl (by decide) (by decide) rfl (cs := []) rfl rfl fun v31 _ hs shv31 => ?_)
  obtain ⟨bv31, rfl⟩ := shv31
  obtain ⟨_, hG164, hl164, hs⟩ := hs.fixRow noM
  replace hl27 := hl27.mono hG164
  replace hu28 := hu28.mono hG164
  replace hu32 := hu32.mono hG164
  replace hl37 := hl37.mono hG164
  replace hu38 := hu38.mono hG164
  replace hm38 := hm38.mono hG164
  replace hu43 := hu43.mono hG164
  replace hl48 := hl48.mono hG164
  replace hu49 := hu49.mono hG164
  replace hm49 := hm49.mono hG164
  replace hl55 := hl55.mono hG164
  replace hu56 := hu56.mono hG164
  replace hm56 := hm56.mono hG164
  replace hu62 := hu62.mono hG164
  replace hm62 := hm62.mono hG164
  replace hu67 := hu67.mono hG164
  replace hu72 := hu72.mono hG164
  replace hl76 := hl76.mono hG164
  replace hl97 := hl97.mono hG164
  replace hl98 := hl98.mono hG164
  replace hl103 := hl103.mono hG164
  replace hl122 := hl122.mono hG164
  replace hl136 := hl136.mono hG164
  replace hl137 := hl137.mono hG164
  replace hl158 := hl158.mono hG164
  replace hl159 := hl159.mono hG164
  replace hsp := hsp.mono hG164
  replace hl161 := hl161.mono hG164
  replace hl162 := hl162.mono hG164
  replace hl163 := hl163.mono hG164
  refine O_yes 156 rfl rfl (S_lit hs Try.underlying22 Try.sizeOf23 Try.zeroValue23 rfl rfl (by decide) (by decide) rfl (cs := [_, _, _, _]) rfl rfl fun v32 _ hs shv32 => ?_)
  obtain ⟨bv32, rfl⟩ := shv32
  obtain ⟨_, hG165, hl165, hs⟩ := hs.fixRow noM
  replace hl27 := hl27.mono hG165
  replace hu28 := hu28.mono hG165
  replace hu32 := hu32.mono hG165
  replace hl37 := hl37.mono hG165
  replace hu38 := hu38.mono hG165
  replace hm38 := hm38.mono hG165
  replace hu43 := hu43.mono hG165
  replace hl48 := hl48.mono hG165
  replace hu49 := hu49.mono hG165
  replace hm49 := hm49.mono hG165
  replace hl55 := hl55.mono hG165
  replace hu56 := hu56.mono hG165
  replace hm56 := hm56.mono hG165
  replace hu62 := hu62.mono hG165
  replace hm62 := hm62.mono hG165
  replace hu67 := hu67.mono hG165
  replace hu72 := hu72.mono hG165
  replace hl76 := hl76.mono hG165
  replace hl97 := hl97.mono hG165
  replace hl98 := hl98.mono hG165
  replace hl103 := hl103.mono hG165
  replace hl122 := hl122.mono hG165
  replace hl136 := hl136.mono hG165
  replace hl137 := hl137.mono hG165
  replace hl158 := hl158.mono hG165
  replace hl159 := hl159.mono hG165
  replace hsp := hsp.mono hG165
  replace hl161 := hl161.mono hG165
  replace hl162 := hl162.mono hG165
  replace hl163 := hl163.mono hG165
  replace hl164 := hl164.mono hG165
  refine O_yes 156 rfl rfl (S_call (H1 := []) hs rfl Try.func22 rfl (by kernel_rfl) (sameBytes_eq hsp (LBytes.ofSl (l := [[97], [98], [99], []]) hl165 rfl ⟨(Bytes.ofSl (bs := [97]) hl161 rfl rfl), (Bytes.ofSl (bs := [98]) hl162 rfl rfl), (Bytes.ofSl (bs := [99]) hl163 rfl rfl), (Bytes.ofSl (bs := []) hl164 rfl rfl), trivial⟩) (by decide) true (by decide)) fun v33 G' H' _ hR hG166 hs => ?_)
  obtain ⟨rfl, rfl⟩ := hR
  replace hs : St _ _ [_, _, _, _, _, _, _, _] _ := hs
  replace hl27 := hl27.mono hG166
  replace hu28 := hu28.mono hG166
  replace hu32 := hu32.mono hG166
  replace hl37 := hl37.mono hG166
  replace hu38 := hu38.mono hG166
  replace hm38 := hm38.mono hG166
  replace hu43 := hu43.mono hG166
  replace hl48 := hl48.mono hG166
  replace hu49 := hu49.mono hG166
  replace hm49 := hm49.mono hG166
  replace hl55 := hl55.mono hG166
  replace hu56 := hu56.mono hG166
  replace hm56 := hm56.mono hG166
  replace hu62 := hu62.mono hG166
  replace hm62 := hm62.mono hG166
  replace hu67 := hu67.mono hG166
  replace hu72 := hu72.mono hG166
  replace hl76 := hl76.mono hG166
  replace hl97 := hl97.mono hG166
  replace hl98 := hl98.mono hG166
  replace hl103 := hl103.mono hG166
  replace hl122 := hl122.mono hG166
  replace hl136 := hl136.mono hG166
  replace hl137 := hl137.mono hG166
  replace hl158 := hl158.mono hG166
  replace hl159 := hl159.mono hG166
  replace hsp := hsp.mono hG166
  replace hl161 := hl161.mono hG166
  replace hl162 := hl162.mono hG166
  replace hl163 := hl163.mono hG166
  replace hl164 := hl164.mono hG166
  replace hl165 := hl165.mono hG166
  refine O_y hs (Y_pickT rfl rfl ?_)
  refine O_y hs (Y_assign rfl ?_)
  refine O_nil (T_sub [(0, _)] ⟨rfl, trivial⟩ ?_)
  refine T_ret ?_
  refine Rt_fin (vs := [_]) Try.results11 rfl ⟨rfl, trivial⟩ ?_
  try dsimp only [tup]
  exact ⟨_, [], hs.done, rfl, rfl⟩

end Go.Proofs.Ytacchhkefnokdaa
