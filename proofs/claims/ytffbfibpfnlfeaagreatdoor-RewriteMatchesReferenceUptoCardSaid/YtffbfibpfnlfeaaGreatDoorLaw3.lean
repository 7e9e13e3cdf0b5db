import Derived.Test.YtffbfibpfnlfeaaGreatDoorPlain2
import Derived.Test.YtffbfibpfnlfeaaGreatDoorExWalks5
import Derived.Test.YtffbfibpfnlfeaaGreatDoorProg
import Derived.Test.YtffbfibpfnlfeaaGreatDoorPlain
import Derived.Test.YtffbfibpfnlfeaaGreatDoorShelf
namespace Go.Proofs.YtffbfibpfnlfeaaGreatDoor
open Go Go.Ex Go.RowKit





set_option maxHeartbeats 1000000 in
set_option maxRecDepth 10000 in
theorem lawMatches {G : Ghost} {v vb : Value} {b : List UInt8} {c : List Nat} {o : OpV} (ho : OpR G v o) (_hx : -9223372036854775808 ≤ o.kind ∧ o.kind ≤ 9223372036854775807) (hol : o.old.length ≤ 10000000) (hnl : o.new.length ≤ 10000000) (hb : Bytes G vb b) (hl : b.length ≤ 10000000) (hc : c.length = 4) (hT : Tab G) (hm : MaxL G) :
    FnOk Tryz.prog 3 [v, vb, ClsV c] G [] fun r _ H' => H' = [] ∧ r = .bool true := by
  obtain ⟨u1, u2, rfl, ho1, ho2⟩ := ho
  obtain ⟨A1, c1, rfl, _⟩ := id ho1
  obtain ⟨A2, c2, rfl, _⟩ := id ho2
  obtain ⟨A, cap, rfl, _⟩ := id hb
  have hl2 : b.length ≤ 100000000 := by omega
  refine FnOk.of_T [(0, _), (1, _), (2, _)] Tryz.func3 rfl Tryz.ntmps3 (by simp) rfl fun w0 hs => ?_
  have ho10 := ho1
  have ho20 := ho2
  have hb0 := hb
  have hT0 := hT
  have hm0 := hm
  refine T_seq (T_region rfl ?_)
  refine O_s (S_box hs rfl (cs := [_, _, _]) rfl fun b3 _ hs => ?_)
  refine O_s (S_box hs rfl (cs := (List.map u64V c)) rfl fun b5 _ hs => ?_)
  refine O_y hs (Y_assign rfl ?_)
  refine O_nil (T_sub [(1, _), (3, _), (5, _)] ⟨rfl, rfl, rfl, trivial⟩ ?_)
  refine T_seq (T_region rfl ?_)
  refine O_s (S_call (H1 := []) hs rfl Tryz.func8 rfl (by kernel_rfl) (sanity_ok hT hm) fun v1 G' H' _ hR hG17 hs => ?_)
  obtain ⟨rfl, rfl⟩ := hR
  replace hs : St _ _ [_, _] _ := hs
  replace ho1 := ho1.mono hG17
  replace ho2 := ho2.mono hG17
  replace hb := hb.mono hG17
  replace hT := hT.mono hG17
  replace hm := hm.mono hG17
  refine O_y hs (Y_assign rfl ?_)
  refine O_nil (T_sub [(1, _), (3, _), (5, _), (7, _)] ⟨rfl, rfl, rfl, rfl, trivial⟩ ?_)
  refine T_seq (T_region rfl ?_)
  refine O_y hs (Y_ldA 1 Tryz.isAgg24 Tryz.sizeOf24 rfl rfl (vs := [_, _, _]) rfl rfl ?_)
  refine O_s (S_call (H1 := []) hs rfl Tryz.func9 rfl (by kernel_rfl) (made_ok (o := o) ⟨_, _, rfl, ho1, ho2⟩ hol hnl) fun v2 G' H' _ hR hG19 hs => ?_)
  obtain ⟨rfl, hmo⟩ := hR
  replace hs : St _ _ [_, _] _ := hs
  replace ho1 := ho1.mono hG19
  replace ho2 := ho2.mono hG19
  replace hb := hb.mono hG19
  replace hT := hT.mono hG19
  replace hm := hm.mono hG19
  obtain ⟨w1, w2, hve, hp1, hp2⟩ := id hmo
  replace hve : _ = Value.agg #[.int .i64 (madeO o).kind, w1, w2] := hve
  replace hp1 : Bytes _ w1 (madeO o).old := hp1
  replace hp2 : Bytes _ w2 (madeO o).new := hp2
  subst hve
  obtain ⟨A5, c5, rfl, _⟩ := id hp1
  obtain ⟨A6, c6, rfl, _⟩ := id hp2
  refine O_s (S_alloc hs Tryz.zeroValue24 (cs := [_, _, _]) rfl fun b8 _ hs => ?_)
  refine O_n (S_stA hs Tryz.sizeOf24 rfl rfl (vs := [_, _, _]) rfl (rfl) (by simp) (cs' := [_, _, _]) rfl fun _ hs => ?_)
  refine O_nil (T_sub [(1, _), (3, _), (5, _), (7, _), (8, _)] ⟨rfl, rfl, rfl, rfl, rfl, trivial⟩ ?_)
  refine T_seq (T_region rfl ?_)
  refine O_y hs (Y_ldA 2 Tryz.isAgg24 Tryz.sizeOf24 rfl rfl (vs := [_, _, _]) rfl rfl ?_)
  refine O_y hs (Y_move rfl ?_)
  refine O_s (S_call (H1 := []) hs rfl Tryz.func10 rfl (by kernel_rfl) (do_ok (o := o) ⟨_, _, rfl, ho1, ho2⟩ hb hl2 hm) fun v3 G' H' _ hR hG23 hs => ?_)
  obtain ⟨rfl, u23, rfl, hx⟩ := hR
  replace hs : St _ _ [_, _, _] _ := hs
  replace ho1 := ho1.mono hG23
  replace ho2 := ho2.mono hG23
  replace hb := hb.mono hG23
  replace hT := hT.mono hG23
  replace hm := hm.mono hG23
  replace hp1 := hp1.mono hG23
  replace hp2 := hp2.mono hG23
  obtain ⟨A23, c23, rfl, _⟩ := id hx
  refine O_y hs (Y_move rfl ?_)
  refine O_y hs (Y_extract rfl rfl ?_)
  refine O_y hs (Y_extract rfl rfl ?_)
  refine O_y hs (Y_assign rfl ?_)
  refine O_y hs (Y_assign rfl ?_)
  refine O_nil (T_sub [(1, _), (3, _), (5, _), (7, _), (8, _), (9, _), (10, _)] ⟨rfl, rfl, rfl, rfl, rfl, rfl, rfl, trivial⟩ ?_)
  refine T_seq (T_region rfl ?_)
  refine O_y hs (Y_ldA 2 Tryz.isAgg24 Tryz.sizeOf24 rfl rfl (vs := [_, _, _]) rfl rfl ?_)
  refine O_y hs (Y_move rfl ?_)
  refine O_s (S_call (H1 := []) hs rfl Tryz.func11 rfl (by kernel_rfl) (rdo_ok (o := o) ⟨_, _, rfl, ho1, ho2⟩ hb hl2) fun v4 G' H' _ hR hG29 hs => ?_)
  obtain ⟨rfl, u29, rfl, hy⟩ := hR
  replace hs : St _ _ [_, _, _] _ := hs
  replace ho1 := ho1.mono hG29
  replace ho2 := ho2.mono hG29
  replace hb := hb.mono hG29
  replace hT := hT.mono hG29
  replace hm := hm.mono hG29
  replace hp1 := hp1.mono hG29
  replace hp2 := hp2.mono hG29
  replace hx := hx.mono hG29
  obtain ⟨A29, c29, rfl, _⟩ := id hy
  refine O_y hs (Y_move rfl ?_)
  refine O_y hs (Y_extract rfl rfl ?_)
  refine O_y hs (Y_extract rfl rfl ?_)
  refine O_y hs (Y_assign rfl ?_)
  refine O_y hs (Y_assign rfl ?_)
  refine O_nil (T_sub [(1, _), (3, _), (5, _), (7, _), (8, _), (9, _), (10, _), (11, _), (12, _)] ⟨rfl, rfl, rfl, rfl, rfl, rfl, rfl, rfl, rfl, trivial⟩ ?_)
  refine T_seq (T_region rfl ?_)
  refine O_y hs (Y_ldA 0 Tryz.isAgg24 Tryz.sizeOf24 rfl rfl (vs := [_, _, _]) rfl rfl ?_)
  refine O_y hs (Y_move rfl ?_)
  refine O_s (S_call (H1 := []) hs rfl Tryz.func10 rfl (by kernel_rfl) (do_ok (o := (madeO o)) ⟨_, _, rfl, hp1, hp2⟩ hb hl2 hm) fun v5 G' H' _ hR hG35 hs => ?_)
  obtain ⟨rfl, u35, rfl, hz⟩ := hR
  replace hs : St _ _ [_, _, _] _ := hs
  replace ho1 := ho1.mono hG35
  replace ho2 := ho2.mono hG35
  replace hb := hb.mono hG35
  replace hT := hT.mono hG35
  replace hm := hm.mono hG35
  replace hp1 := hp1.mono hG35
  replace hp2 := hp2.mono hG35
  replace hx := hx.mono hG35
  replace hy := hy.mono hG35
  obtain ⟨A35, c35, rfl, _⟩ := id hz
  refine O_y hs (Y_move rfl ?_)
  refine O_y hs (Y_extract rfl rfl ?_)
  refine O_y hs (Y_extract rfl rfl ?_)
  refine O_y hs (Y_assign rfl ?_)
  refine O_y hs (Y_assign rfl ?_)
  refine O_nil (T_sub [(1, _), (3, _), (5, _), (7, _), (8, _), (9, _), (10, _), (11, _), (12, _), (13, _), (14, _)] ⟨rfl, rfl, rfl, rfl, rfl, rfl, rfl, rfl, rfl, rfl, rfl, trivial⟩ ?_)
  refine T_seq (T_region rfl ?_)
  refine O_y hs (Y_ldA 0 Tryz.isAgg24 Tryz.sizeOf24 rfl rfl (vs := [_, _, _]) rfl rfl ?_)
  refine O_y hs (Y_move rfl ?_)
  refine O_s (S_call (H1 := []) hs rfl Tryz.func11 rfl (by kernel_rfl) (rdo_ok (o := (madeO o)) ⟨_, _, rfl, hp1, hp2⟩ hb hl2) fun v6 G' H' _ hR hG41 hs => ?_)
  obtain ⟨rfl, u41, rfl, hw⟩ := hR
  replace hs : St _ _ [_, _, _] _ := hs
  replace ho1 := ho1.mono hG41
  replace ho2 := ho2.mono hG41
  replace hb := hb.mono hG41
  replace hT := hT.mono hG41
  replace hm := hm.mono hG41
  replace hp1 := hp1.mono hG41
  replace hp2 := hp2.mono hG41
  replace hx := hx.mono hG41
  replace hy := hy.mono hG41
  replace hz := hz.mono hG41
  obtain ⟨A41, c41, rfl, _⟩ := id hw
  refine O_y hs (Y_move rfl ?_)
  refine O_y hs (Y_extract rfl rfl ?_)
  refine O_y hs (Y_extract rfl rfl ?_)
  refine O_y hs (Y_assign rfl ?_)
  refine O_y hs (Y_assign rfl ?_)
  refine O_nil (T_sub [(1, _), (3, _), (5, _), (7, _), (9, _), (10, _), (11, _), (12, _), (13, _), (14, _), (15, _), (16, _)] ⟨rfl, rfl, rfl, rfl, rfl, rfl, rfl, rfl, rfl, rfl, rfl, rfl, trivial⟩ ?_)
  refine T_seq (T_drawS [0, 1, 2, 3, 4, 5, 6, 7, 8, 9, 10, 11, 12, 13, 14, 15, 16, 17, 18, 19, 20, 21, 22, 23, 24, 25, 26, 27, 28, 29, 30, 31, 32, 33, 34, 35, 36, 37] hs (by kernel_rfl) ?_)
  replace hs := hs.drew
  refine A_take 0 rfl (by kernel_rfl) rfl hs (Y_move rfl ?_)
  refine A_take 1 rfl (by kernel_rfl) rfl hs (Y_move rfl ?_)
  refine A_take 2 rfl (by kernel_rfl) rfl hs (Y_ldA 2 Tryz.isAgg24 Tryz.sizeOf24 rfl rfl (vs := [_, _, _]) rfl rfl ?_)
  refine A_take 4 rfl (by kernel_rfl) rfl hs (Y_ldA 2 Tryz.isAgg24 Tryz.sizeOf24 rfl rfl (vs := [_, _, _]) rfl rfl ?_)
  have hle := hs.le
  refine A_only 3 rfl (by kernel_rfl) rfl (S_call (H1 := []) hs rfl Tryz.func12 rfl (by kernel_rfl) (valid_ok (o := o) ⟨_, _, rfl, ho1, ho2⟩) fun v7 G' H' _ hR hG47 hs => ?_)
  obtain ⟨rfl, rfl⟩ := hR
  replace hs : St _ _ [_, _, _] _ := hs
  replace ho1 := ho1.mono hG47
  replace ho2 := ho2.mono hG47
  replace hb := hb.mono hG47
  replace hT := hT.mono hG47
  replace hm := hm.mono hG47
  replace hp1 := hp1.mono hG47
  replace hp2 := hp2.mono hG47
  replace hx := hx.mono hG47
  replace hy := hy.mono hG47
  replace hz := hz.mono hG47
  replace hw := hw.mono hG47
  refine A_moreS hs hle hG47 (List.Sublist.refl _) ?_
  have hle := hs.le
  refine A_only 5 rfl (by kernel_rfl) rfl (S_call (H1 := []) hs rfl Tryz.func13 rfl (by kernel_rfl) (rvalid_ok (o := o) ⟨_, _, rfl, ho1, ho2⟩) fun v8 G' H' _ hR hG49 hs => ?_)
  obtain ⟨rfl, rfl⟩ := hR
  replace hs : St _ _ [_, _, _] _ := hs
  replace ho1 := ho1.mono hG49
  replace ho2 := ho2.mono hG49
  replace hb := hb.mono hG49
  replace hT := hT.mono hG49
  replace hm := hm.mono hG49
  replace hp1 := hp1.mono hG49
  replace hp2 := hp2.mono hG49
  replace hx := hx.mono hG49
  replace hy := hy.mono hG49
  replace hz := hz.mono hG49
  replace hw := hw.mono hG49
  refine A_moreS hs hle hG49 (List.Sublist.refl _) ?_
  refine A_take 6 rfl (by kernel_rfl) rfl hs (Y_cmpT rfl rfl rfl (rfl) ?_)
  refine A_take 7 rfl (by kernel_rfl) rfl hs (Y_pickT rfl rfl ?_)
  refine A_take 8 rfl (by kernel_rfl) rfl hs (Y_move rfl ?_)
  refine A_take 9 rfl (by kernel_rfl) rfl hs (Y_move rfl ?_)
  refine A_take 10 rfl (by kernel_rfl) rfl hs (Y_move rfl ?_)
  refine A_take 11 rfl (by kernel_rfl) rfl hs (Y_boolEqS Tryz.underlying4 rfl rfl (fun _ => ?_) (fun h => absurd rfl h))
  refine A_take 12 rfl (by kernel_rfl) rfl hs (Y_pickT rfl rfl ?_)
  refine A_take 13 rfl (by kernel_rfl) rfl hs (Y_move rfl ?_)
  refine A_take 14 rfl (by kernel_rfl) rfl hs (Y_move rfl ?_)
  refine A_take 15 rfl (by kernel_rfl) rfl hs (Y_move rfl ?_)
  have hle := hs.le
  refine A_only 16 rfl (by kernel_rfl) rfl (S_call (H1 := []) hs rfl Tryz.func14 rfl (by kernel_rfl) (same_ok hx hy) fun v9 G' H' _ hR hG60 hs => ?_)
  obtain ⟨rfl, rfl⟩ := hR
  replace hs : St _ _ [_, _, _] _ := hs
  replace ho1 := ho1.mono hG60
  replace ho2 := ho2.mono hG60
  replace hb := hb.mono hG60
  replace hT := hT.mono hG60
  replace hm := hm.mono hG60
  replace hp1 := hp1.mono hG60
  replace hp2 := hp2.mono hG60
  replace hx := hx.mono hG60
  replace hy := hy.mono hG60
  replace hz := hz.mono hG60
  replace hw := hw.mono hG60
  rw [decide_eq_true (show _ = _ from rfl)]
  refine A_moreS hs hle hG60 (List.Sublist.refl _) ?_
  refine A_take 17 rfl (by kernel_rfl) rfl hs (Y_pickT rfl rfl ?_)
  refine A_take 18 rfl (by kernel_rfl) rfl hs (Y_move rfl ?_)
  refine A_take 19 rfl (by kernel_rfl) rfl hs (Y_move rfl ?_)
  refine A_take 20 rfl (by kernel_rfl) rfl hs (Y_move rfl ?_)
  refine A_take 21 rfl (by kernel_rfl) rfl hs (Y_boolEqS Tryz.underlying4 rfl rfl (fun _ => ?_) (fun h => absurd rfl h))
  refine A_take 22 rfl (by kernel_rfl) rfl hs (Y_pickT rfl rfl ?_)
  refine A_take 23 rfl (by kernel_rfl) rfl hs (Y_move rfl ?_)
  refine A_take 24 rfl (by kernel_rfl) rfl hs (Y_move rfl ?_)
  refine A_take 25 rfl (by kernel_rfl) rfl hs (Y_move rfl ?_)
  have hle := hs.le
  refine A_only 26 rfl (by kernel_rfl) rfl (S_call (H1 := []) hs rfl Tryz.func14 rfl (by kernel_rfl) (same_ok hz hw) fun v10 G' H' _ hR hG70 hs => ?_)
  obtain ⟨rfl, rfl⟩ := hR
  replace hs : St _ _ [_, _, _] _ := hs
  replace ho1 := ho1.mono hG70
  replace ho2 := ho2.mono hG70
  replace hb := hb.mono hG70
  replace hT := hT.mono hG70
  replace hm := hm.mono hG70
  replace hp1 := hp1.mono hG70
  replace hp2 := hp2.mono hG70
  replace hx := hx.mono hG70
  replace hy := hy.mono hG70
  replace hz := hz.mono hG70
  replace hw := hw.mono hG70
  rw [decide_eq_true (show _ = _ from rfl)]
  refine A_moreS hs hle hG70 (List.Sublist.refl _) ?_
  refine A_take 27 rfl (by kernel_rfl) rfl hs (Y_pickT rfl rfl ?_)
  refine A_take 28 rfl (by kernel_rfl) rfl hs (Y_move rfl ?_)
  refine A_take 29 rfl (by kernel_rfl) rfl hs (Y_ldW 1 Tryz.isAgg27 Tryz.sizeOf27 rfl rfl (by first | omega | (simp; omega) | simp) ?_)
  refine A_take 30 rfl (by kernel_rfl) rfl hs (Y_move rfl ?_)
  refine A_take 32 rfl (by kernel_rfl) rfl hs (Y_ldW 1 Tryz.isAgg27 Tryz.sizeOf27 rfl rfl (by first | omega | (simp; omega) | simp) ?_)
  refine A_take 33 rfl (by kernel_rfl) rfl hs (Y_move rfl ?_)
  have hle := hs.le
  refine A_only 31 rfl (by kernel_rfl) rfl (S_call (H1 := []) hs rfl Tryz.func15 rfl (by kernel_rfl) (trim_ok hc hb (by omega)) fun v11 G' H' _ hR hG75 hs => ?_)
  obtain ⟨rfl, hu75⟩ := hR
  replace hs : St _ _ [_, _, _] _ := hs
  replace ho1 := ho1.mono hG75
  replace ho2 := ho2.mono hG75
  replace hb := hb.mono hG75
  replace hT := hT.mono hG75
  replace hm := hm.mono hG75
  replace hp1 := hp1.mono hG75
  replace hp2 := hp2.mono hG75
  replace hx := hx.mono hG75
  replace hy := hy.mono hG75
  replace hz := hz.mono hG75
  replace hw := hw.mono hG75
  refine A_moreS hs hle hG75 (List.Sublist.refl _) ?_
  have hle := hs.le
  refine A_only 34 rfl (by kernel_rfl) rfl (S_call (H1 := []) hs rfl Tryz.func16 rfl (by kernel_rfl) (rtrim_ok hc hb (by omega)) fun v12 G' H' _ hR hG78 hs => ?_)
  obtain ⟨rfl, hu78⟩ := hR
  replace hs : St _ _ [_, _, _] _ := hs
  replace ho1 := ho1.mono hG78
  replace ho2 := ho2.mono hG78
  replace hb := hb.mono hG78
  replace hT := hT.mono hG78
  replace hm := hm.mono hG78
  replace hp1 := hp1.mono hG78
  replace hp2 := hp2.mono hG78
  replace hx := hx.mono hG78
  replace hy := hy.mono hG78
  replace hz := hz.mono hG78
  replace hw := hw.mono hG78
  replace hu75 := hu75.mono hG78
  refine A_moreS hs hle hG78 (List.Sublist.refl _) ?_
  have hle := hs.le
  refine A_only 35 rfl (by kernel_rfl) rfl (S_call (H1 := []) hs rfl Tryz.func14 rfl (by kernel_rfl) (same_ok hu75 hu78) fun v13 G' H' _ hR hG79 hs => ?_)
  obtain ⟨rfl, rfl⟩ := hR
  replace hs : St _ _ [_, _, _] _ := hs
  replace ho1 := ho1.mono hG79
  replace ho2 := ho2.mono hG79
  replace hb := hb.mono hG79
  replace hT := hT.mono hG79
  replace hm := hm.mono hG79
  replace hp1 := hp1.mono hG79
  replace hp2 := hp2.mono hG79
  replace hx := hx.mono hG79
  replace hy := hy.mono hG79
  replace hz := hz.mono hG79
  replace hw := hw.mono hG79
  replace hu75 := hu75.mono hG79
  replace hu78 := hu78.mono hG79
  rw [decide_eq_true (show _ = _ from rfl)]
  refine A_moreS hs hle hG79 (List.Sublist.refl _) ?_
  refine A_take 36 rfl (by kernel_rfl) rfl hs (Y_pickT rfl rfl ?_)
  refine A_take 37 rfl (by kernel_rfl) rfl hs (Y_assign rfl ?_)
  refine A_done (by kernel_rfl) (T_sub [(6, _)] ⟨rfl, trivial⟩ ?_)
  refine T_ret ?_
  refine Rt_fin (vs := [_]) Tryz.results3 rfl ⟨rfl, trivial⟩ ?_
  try dsimp only [tup]
  exact ⟨_, [], hs.done, rfl, rfl⟩

end Go.Proofs.YtffbfibpfnlfeaaGreatDoor
