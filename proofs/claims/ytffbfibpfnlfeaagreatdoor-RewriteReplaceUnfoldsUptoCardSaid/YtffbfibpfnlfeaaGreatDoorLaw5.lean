import Derived.Test.YtffbfibpfnlfeaaGreatDoorPlain2
import Derived.Test.YtffbfibpfnlfeaaGreatDoorExWalks5
import Derived.Test.YtffbfibpfnlfeaaGreatDoorProg
import Derived.Test.YtffbfibpfnlfeaaGreatDoorPlain
import Derived.Test.YtffbfibpfnlfeaaGreatDoorShelf
namespace Go.Proofs.YtffbfibpfnlfeaaGreatDoor
open Go Go.Ex Go.RowKit





set_option maxHeartbeats 1000000 in
set_option maxRecDepth 10000 in
theorem lawUnfolds {G : Ghost} {v vb : Value} {b : List UInt8} {o : OpV} (ho : OpR G v o) (_hx : -9223372036854775808 ≤ o.kind ∧ o.kind ≤ 9223372036854775807) (hol : o.old.length ≤ 10000000) (hnl : o.new.length ≤ 10000000) (hb : Bytes G vb b) (hl : b.length ≤ 10000000) (hT : Tab G) (hm : MaxL G) :
    FnOk Tryz.prog 5 [v, vb] G [] fun r _ H' => H' = [] ∧ r = .bool true := by
  obtain ⟨u1, u2, rfl, ho1, ho2⟩ := ho
  obtain ⟨A1, c1, rfl, _⟩ := id ho1
  obtain ⟨A2, c2, rfl, _⟩ := id ho2
  obtain ⟨A, cap, rfl, _⟩ := id hb
  obtain ⟨F, N, hFN, hne, h4, hn4⟩ := made_rep o.old o.new
  have hFp := List.length_pos_iff.2 hne
  have hr1 := repF_len (old := F) hn4 b
  refine FnOk.of_T [(0, _), (1, _)] Tryz.func5 rfl Tryz.ntmps5 (by simp) rfl fun w0 hs => ?_
  have ho10 := ho1
  have ho20 := ho2
  have hb0 := hb
  have hT0 := hT
  have hm0 := hm
  refine T_seq (T_region rfl ?_)
  refine O_s (S_box hs rfl (cs := [_, _, _]) rfl fun b2 _ hs => ?_)
  refine O_y hs (Y_assign rfl ?_)
  refine O_nil (T_sub [(1, _), (2, _)] ⟨rfl, rfl, trivial⟩ ?_)
  refine T_seq (T_region rfl ?_)
  refine O_s (S_call (H1 := []) hs rfl Tryz.func8 rfl (by kernel_rfl) (sanity_ok hT hm) fun v1 G' H' _ hR hG17 hs => ?_)
  obtain ⟨rfl, rfl⟩ := hR
  replace hs : St _ _ [_] _ := hs
  replace ho1 := ho1.mono hG17
  replace ho2 := ho2.mono hG17
  replace hb := hb.mono hG17
  replace hT := hT.mono hG17
  replace hm := hm.mono hG17
  refine O_y hs (Y_assign rfl ?_)
  refine O_nil (T_sub [(1, _), (2, _), (5, _)] ⟨rfl, rfl, rfl, trivial⟩ ?_)
  refine T_seq (T_region rfl ?_)
  refine O_y hs (Y_fieldAddr FO24_0 rfl (m := 0) rfl ?_)
  refine O_n (S_st hs Tryz.sizeOf3 rfl rfl rfl (by simp) (cs' := [_, _, _]) rfl fun _ hs => ?_)
  refine O_nil (T_sub [(1, _), (2, _), (5, _)] ⟨rfl, rfl, rfl, trivial⟩ ?_)
  refine T_seq (T_region rfl ?_)
  refine O_y hs (Y_ldA 0 Tryz.isAgg24 Tryz.sizeOf24 rfl rfl (vs := [_, _, _]) rfl rfl ?_)
  refine O_s (S_call (H1 := []) hs rfl Tryz.func9 rfl (by kernel_rfl) (made_ok (o := ⟨4, o.old, o.new⟩) ⟨_, _, rfl, ho1, ho2⟩ hol hnl) fun v2 G' H' _ hR hG20 hs => ?_)
  obtain ⟨rfl, hmo⟩ := hR
  replace hs : St _ _ [_] _ := hs
  replace ho1 := ho1.mono hG20
  replace ho2 := ho2.mono hG20
  replace hb := hb.mono hG20
  replace hT := hT.mono hG20
  replace hm := hm.mono hG20
  rw [hFN] at hmo
  obtain ⟨w1, w2, hve, hp1, hp2⟩ := id hmo
  replace hve : _ = Value.agg #[.int .i64 5, w1, w2] := hve
  replace hp1 : Bytes _ w1 F := hp1
  replace hp2 : Bytes _ w2 N := hp2
  subst hve
  obtain ⟨A5, c5, rfl, _⟩ := id hp1
  obtain ⟨A6, c6, rfl, _⟩ := id hp2
  refine O_s (S_alloc hs Tryz.zeroValue24 (cs := [_, _, _]) rfl fun b6 _ hs => ?_)
  refine O_n (S_stA hs Tryz.sizeOf24 rfl rfl (vs := [_, _, _]) rfl (rfl) (by simp) (cs' := [_, _, _]) rfl fun _ hs => ?_)
  refine O_nil (T_sub [(1, _), (5, _), (6, _)] ⟨rfl, rfl, rfl, trivial⟩ ?_)
  refine T_seq (T_region rfl ?_)
  refine O_y hs (Y_fieldAddr FO24_1 rfl (m := 1) rfl ?_)
  refine O_y hs (Y_ld 0 Tryz.isAgg22 rfl rfl rfl ?_)
  refine O_y hs (Y_fieldAddr FO24_2 rfl (m := 2) rfl ?_)
  refine O_y hs (Y_ld 0 Tryz.isAgg22 rfl rfl rfl ?_)
  refine O_y hs (Y_build Tryz.zeroValue24 rfl PL24 rfl (cs := [_, _, _]) rfl ?_)
  refine O_s (S_alloc hs Tryz.zeroValue24 (cs := [_, _, _]) rfl fun b7 _ hs => ?_)
  refine O_n (S_stA hs Tryz.sizeOf24 rfl rfl (vs := [_, _, _]) rfl (rfl) (by simp) (cs' := [_, _, _]) rfl fun _ hs => ?_)
  refine O_nil (T_sub [(1, _), (5, _), (6, _), (7, _)] ⟨rfl, rfl, rfl, rfl, trivial⟩ ?_)
  refine T_seq (T_region rfl ?_)
  refine O_y hs (Y_ldA 1 Tryz.isAgg24 Tryz.sizeOf24 rfl rfl (vs := [_, _, _]) rfl rfl ?_)
  refine O_y hs (Y_move rfl ?_)
  refine O_s (S_call (H1 := []) hs rfl Tryz.func10 rfl (by kernel_rfl) (do_eq (o := ⟨5, F, N⟩) (some (repF F N 1 0 b)) (do5 b hne h4 hn4) ⟨_, _, rfl, hp1, hp2⟩ hb (by omega) hm) fun v3 G' H' _ hR hG29 hs => ?_)
  obtain ⟨rfl, u29, rfl, hx⟩ := hR
  replace hs : St _ _ [_, _, _] _ := hs
  replace ho1 := ho1.mono hG29
  replace ho2 := ho2.mono hG29
  replace hb := hb.mono hG29
  replace hT := hT.mono hG29
  replace hm := hm.mono hG29
  replace hp1 := hp1.mono hG29
  replace hp2 := hp2.mono hG29
  replace hx : Bytes _ _ (repF F N 1 0 b) := hx
  obtain ⟨A29, c29, rfl, _⟩ := id hx
  refine O_y hs (Y_move rfl ?_)
  refine O_y hs (Y_extract rfl rfl ?_)
  refine O_y hs (Y_extract rfl rfl ?_)
  refine O_y hs (Y_assign rfl ?_)
  refine O_y hs (Y_assign rfl ?_)
  refine O_nil (T_sub [(1, _), (5, _), (6, _), (7, _), (8, _), (9, _)] ⟨rfl, rfl, rfl, rfl, rfl, rfl, trivial⟩ ?_)
  refine T_seq (T_region rfl ?_)
  refine O_y hs (Y_ldA 0 Tryz.isAgg24 Tryz.sizeOf24 rfl rfl (vs := [_, _, _]) rfl rfl ?_)
  refine O_y hs (Y_move rfl ?_)
  refine O_s (S_call (H1 := []) hs rfl Tryz.func10 rfl (by kernel_rfl) (do_eq (o := ⟨6, F, N⟩) (some (repF F N b.length 0 b)) (do6 b hne h4 hn4) ⟨_, _, rfl, hp1, hp2⟩ hb (by omega) hm) fun v4 G' H' _ hR hG35 hs => ?_)
  obtain ⟨rfl, u35, rfl, hy⟩ := hR
  replace hs : St _ _ [_, _, _] _ := hs
  replace ho1 := ho1.mono hG35
  replace ho2 := ho2.mono hG35
  replace hb := hb.mono hG35
  replace hT := hT.mono hG35
  replace hm := hm.mono hG35
  replace hp1 := hp1.mono hG35
  replace hp2 := hp2.mono hG35
  replace hx := hx.mono hG35
  replace hy : Bytes _ _ (repF F N b.length 0 b) := hy
  obtain ⟨A35, c35, rfl, _⟩ := id hy
  refine O_y hs (Y_move rfl ?_)
  refine O_y hs (Y_extract rfl rfl ?_)
  refine O_y hs (Y_extract rfl rfl ?_)
  refine O_y hs (Y_assign rfl ?_)
  refine O_y hs (Y_assign rfl ?_)
  refine O_nil (T_sub [(1, _), (5, _), (6, _), (7, _), (8, _), (9, _), (10, _), (11, _)] ⟨rfl, rfl, rfl, rfl, rfl, rfl, rfl, rfl, trivial⟩ ?_)
  refine T_seq (T_region rfl ?_)
  refine O_y hs (Y_assign rfl ?_)
  refine O_nil (T_sub [(1, _), (5, _), (6, _), (7, _), (8, _), (9, _), (10, _), (11, _), (12, _)] ⟨rfl, rfl, rfl, rfl, rfl, rfl, rfl, rfl, rfl, trivial⟩ ?_)
  refine T_seq (T_block (T_loop (fun m E w => ∃ (i : Nat) (G' : Ghost), i ≤ b.length ∧ idxF F b = (idxF F (b.drop i)).map (· + i) ∧ m = b.length - i ∧ Bytes G' (.slice A5 F.length c5) F ∧ Bytes G' (.slice A6 N.length c6) N ∧ Bytes G' (.slice A29 (repF F N 1 0 b).length c29) (repF F N 1 0 b) ∧ Bytes G' (.slice A35 (repF F N b.length 0 b).length c35) (repF F N b.length 0 b) ∧ E = ⟨[], [(1, (.slice A b.length cap)), (5, .bool true), (6, .pointer (some ⟨b6, 0, none⟩)), (7, .pointer (some ⟨b7, 0, none⟩)), (8, .slice A29 (repF F N 1 0 b).length c29), (9, .bool true), (10, .slice A35 (repF F N b.length 0 b).length c35), (11, .bool true), (12, .int .i64 (i : Int))]⟩ ∧ St ⟨w0, G, feet []⟩ G' [.blk b7 24 [.int .i64 6, .slice A5 F.length c5, .slice A6 N.length c6], .blk b6 24 [.int .i64 5, .slice A5 F.length c5, .slice A6 N.length c6], .blk b2 24 [.int .i64 4, .slice A1 o.old.length c1, .slice A2 o.new.length c2]] w) (L := [(1, _), (5, _), (6, _), (7, _), (8, _), (9, _), (10, _), (11, _), (12, _)]) ⟨rfl, rfl, rfl, rfl, rfl, rfl, rfl, rfl, rfl, trivial⟩ (⟨0, _, by omega, by simp, rfl, hp1, hp2, hx, hy, rfl, hs⟩) fun m E w hI => ?_))
  obtain ⟨i, G', hi, hix, rfl, hp1, hp2, hx, hy, rfl, hs⟩ := hI
  have hb := hb0.mono hs.le
  have hT := hT0.mono hs.le
  have hm := hm0.mono hs.le
  refine T_seq (T_seq (T_region rfl ?_))
  refine O_y hs (Y_move rfl ?_)
  refine O_y hs (Y_move rfl ?_)
  refine O_y hs (Y_len Tryz.underlying22 rfl ?_)
  refine O_y hs (Y_cmpS rfl rfl rfl (fun h41 => ?_) (fun h41 => ?_))
  · -- h41: True
    dsimp only [cmpP] at h41
    refine O_y hs (Y_move rfl ?_)
    refine O_yy 42 hs rfl rfl (Y_fieldAddr FO24_1 rfl (m := 1) rfl ?_)
    refine O_yy 42 hs rfl rfl (Y_ld 1 Tryz.isAgg22 rfl rfl rfl ?_)
    refine O_yy 42 hs rfl rfl (Y_move rfl ?_)
    refine O_yy 42 hs rfl rfl (Y_move rfl ?_)
    refine O_yes 42 rfl rfl (S_call (H1 := []) hs rfl Tryz.func21 rfl (by kernel_rfl) (at_ok hp1 hb (by omega) (by omega) (by omega)) fun v5 G' H' _ hR hG47 hs => ?_)
    obtain ⟨rfl, rfl⟩ := hR
    replace hs : St _ _ [_, _, _] _ := hs
    replace hb := hb.mono hG47
    replace hT := hT.mono hG47
    replace hm := hm.mono hG47
    replace hp1 := hp1.mono hG47
    replace hp2 := hp2.mono hG47
    replace hx := hx.mono hG47
    replace hy := hy.mono hG47
    cases hq : F.isPrefixOf (b.drop i)
    · -- hq: False
      refine O_yy 42 hs rfl rfl (Y_not rfl ?_)
      refine O_y hs (Y_pickT rfl rfl ?_)
      refine O_nil (T_sub [(1, _), (5, _), (6, _), (7, _), (8, _), (9, _), (10, _), (11, _), (12, _), (49, _)] ⟨rfl, rfl, rfl, rfl, rfl, rfl, rfl, rfl, rfl, rfl, trivial⟩ ?_)
      refine T_condT rfl (T_skip ?_)
      refine T_block (T_region rfl ?_)
      refine O_y hs (Y_move rfl ?_)
      refine O_y hs (Y_add (c := ((i + 1 : Nat) : Int)) rfl rfl (by omega) (by omega) ?_)
      refine O_y hs (Y_assign rfl ?_)
      refine O_nil ⟨_, ?_, [(1, _), (5, _), (6, _), (7, _), (8, _), (9, _), (10, _), (11, _), (12, _)], ⟨rfl, rfl, rfl, rfl, rfl, rfl, rfl, rfl, rfl, trivial⟩, ⟨i + 1, _, by omega, idxF_next (by omega) hix (by simp [hq]), rfl, hp1, hp2, hx, hy, rfl, hs⟩⟩
      omega
    · -- hq: True
      refine O_yy 42 hs rfl rfl (Y_not rfl ?_)
      refine O_y hs (Y_pickT rfl rfl ?_)
      refine O_nil (T_sub [(1, _), (5, _), (6, _), (7, _), (8, _), (9, _), (10, _), (11, _), (12, _), (49, _)] ⟨rfl, rfl, rfl, rfl, rfl, rfl, rfl, rfl, rfl, rfl, trivial⟩ ?_)
      refine T_condF rfl (T_exit ?_)
      refine T_seq (T_seq (T_region rfl ?_))
      refine O_y hs (Y_move rfl ?_)
      refine O_y hs (Y_move rfl ?_)
      refine O_y hs (Y_len Tryz.underlying22 rfl ?_)
      refine O_y hs (Y_cmpF rfl rfl rfl (by simp only [cmpP]; omega) ?_)
      refine O_nil (T_sub [(1, _), (5, _), (6, _), (7, _), (8, _), (9, _), (10, _), (11, _), (12, _), (55, _)] ⟨rfl, rfl, rfl, rfl, rfl, rfl, rfl, rfl, rfl, rfl, trivial⟩ ?_)
      refine T_condF rfl (T_skip ?_)
      have hS := idxF_here (by omega) hix hq
      have hal := at_len hq hi
      refine T_seq (T_drawS [0, 1, 2, 3, 4, 5, 6] hs (by kernel_rfl) ?_)
      replace hs := hs.drew
      refine A_take 0 rfl (by kernel_rfl) rfl hs (Y_move rfl ?_)
      refine A_take 1 rfl (by kernel_rfl) rfl hs (Y_move rfl ?_)
      refine A_take 2 rfl (by kernel_rfl) rfl hs (Y_sliceB hb 0 i Tryz.underlying22 Tryz.sizeOf5 rfl rfl ⟨_, _, rfl, rfl⟩ (by omega) (by omega) fun s75 hs75 => ?_)
      obtain ⟨A75, c75, rfl, _⟩ := id hs75
      refine A_take 3 rfl (by kernel_rfl) rfl hs (Y_fieldAddr FO24_2 rfl (m := 2) rfl ?_)
      refine A_take 4 rfl (by kernel_rfl) rfl hs (Y_ld 1 Tryz.isAgg22 rfl rfl rfl ?_)
      have hle := hs.le
      refine A_only 5 rfl (by kernel_rfl) rfl (S_call (H1 := []) hs rfl Tryz.func22 rfl (by kernel_rfl) (join_ok hs75 hp2 (by rw [List.length_take]; omega) (by omega)) fun v6 G' H' _ hR hG78 hs => ?_)
      obtain ⟨rfl, hhd⟩ := hR
      replace hs : St _ _ [_, _, _] _ := hs
      replace hb := hb.mono hG78
      replace hT := hT.mono hG78
      replace hm := hm.mono hG78
      replace hp1 := hp1.mono hG78
      replace hp2 := hp2.mono hG78
      replace hx := hx.mono hG78
      replace hy := hy.mono hG78
      replace hs75 := hs75.mono hG78
      refine A_moreS hs hle hG78 (List.Sublist.refl _) ?_
      refine A_take 6 rfl (by kernel_rfl) rfl hs (Y_assign rfl ?_)
      refine A_done (by kernel_rfl) (T_sub [(1, _), (5, _), (6, _), (7, _), (8, _), (9, _), (10, _), (11, _), (12, _), (13, _)] ⟨rfl, rfl, rfl, rfl, rfl, rfl, rfl, rfl, rfl, rfl, trivial⟩ ?_)
      refine T_seq (T_region rfl ?_)
      refine O_y hs (Y_move rfl ?_)
      refine O_y hs (Y_move rfl ?_)
      refine O_y hs (Y_fieldAddr FO24_1 rfl (m := 1) rfl ?_)
      refine O_y hs (Y_ld 1 Tryz.isAgg22 rfl rfl rfl ?_)
      refine O_y hs (Y_len Tryz.underlying22 rfl ?_)
      refine O_y hs (Y_add (c := ((i + F.length : Nat) : Int)) rfl rfl (by omega) (by omega) ?_)
      refine O_y hs (Y_sliceB hb (i + F.length) b.length Tryz.underlying22 Tryz.sizeOf5 rfl ⟨_, _, rfl, rfl⟩ rfl (by omega) (by omega) fun s85 hs85 => ?_)
      obtain ⟨A85, c85, rfl, _⟩ := id hs85
      refine O_y hs (Y_assign rfl ?_)
      refine O_nil (T_sub [(5, _), (7, _), (8, _), (9, _), (10, _), (11, _), (13, _), (14, _)] ⟨rfl, rfl, rfl, rfl, rfl, rfl, rfl, rfl, trivial⟩ ?_)
      have hrs := Bytes.cast (tk_drop _ _) hs85
      refine T_seq (T_region rfl ?_)
      refine O_y hs (Y_ldA 0 Tryz.isAgg24 Tryz.sizeOf24 rfl rfl (vs := [_, _, _]) rfl rfl ?_)
      refine O_y hs (Y_move rfl ?_)
      refine O_s (S_call (H1 := []) hs rfl Tryz.func10 rfl (by kernel_rfl) (do_eq (o := ⟨6, F, N⟩) (some (repF F N (b.drop (i + F.length)).length 0 (b.drop (i + F.length)))) (do6 _ hne h4 hn4) ⟨_, _, rfl, hp1, hp2⟩ hrs (by rw [List.length_drop]; omega) hm) fun v7 G' H' _ hR hG89 hs => ?_)
      obtain ⟨rfl, u89, rfl, hz⟩ := hR
      replace hs : St _ _ [_, _, _] _ := hs
      replace hb := hb.mono hG89
      replace hT := hT.mono hG89
      replace hm := hm.mono hG89
      replace hp1 := hp1.mono hG89
      replace hp2 := hp2.mono hG89
      replace hx := hx.mono hG89
      replace hy := hy.mono hG89
      replace hs75 := hs75.mono hG89
      replace hhd := hhd.mono hG89
      replace hs85 := hs85.mono hG89
      replace hrs := hrs.mono hG89
      replace hz : Bytes _ _ (repF F N (b.drop (i + F.length)).length 0 (b.drop (i + F.length))) := hz
      obtain ⟨A89, c89, rfl, _⟩ := id hz
      refine O_y hs (Y_move rfl ?_)
      refine O_y hs (Y_extract rfl rfl ?_)
      refine O_y hs (Y_extract rfl rfl ?_)
      refine O_y hs (Y_assign rfl ?_)
      refine O_y hs (Y_assign rfl ?_)
      refine O_nil (T_sub [(5, _), (8, _), (9, _), (10, _), (11, _), (13, _), (14, _), (15, _), (16, _)] ⟨rfl, rfl, rfl, rfl, rfl, rfl, rfl, rfl, rfl, trivial⟩ ?_)
      refine T_seq (T_region rfl ?_)
      refine O_y hs (Y_move rfl ?_)
      refine O_y hs (Y_move rfl ?_)
      refine O_yy 93 hs rfl rfl (Y_move rfl ?_)
      refine O_y hs (Y_pickT rfl rfl ?_)
      refine O_y hs (Y_move rfl ?_)
      refine O_yy 96 hs rfl rfl (Y_move rfl ?_)
      refine O_y hs (Y_pickT rfl rfl ?_)
      refine O_y hs (Y_move rfl ?_)
      refine O_yy 99 hs rfl rfl (Y_move rfl ?_)
      refine O_y hs (Y_pickT rfl rfl ?_)
      refine O_y hs (Y_move rfl ?_)
      refine O_yy 102 hs rfl rfl (Y_move rfl ?_)
      refine O_yy 102 hs rfl rfl (Y_move rfl ?_)
      refine O_yy 102 hs rfl rfl (Y_move rfl ?_)
      refine O_yes 102 rfl rfl (S_call (H1 := []) hs rfl Tryz.func22 rfl (by kernel_rfl) (join_ok hhd hrs (by simp only [List.length_append, List.length_take]; omega) (by rw [List.length_drop]; omega)) fun v8 G' H' _ hR hG106 hs => ?_)
      obtain ⟨rfl, hj1⟩ := hR
      replace hs : St _ _ [_, _, _] _ := hs
      replace hb := hb.mono hG106
      replace hT := hT.mono hG106
      replace hm := hm.mono hG106
      replace hp1 := hp1.mono hG106
      replace hp2 := hp2.mono hG106
      replace hx := hx.mono hG106
      replace hy := hy.mono hG106
      replace hs75 := hs75.mono hG106
      replace hhd := hhd.mono hG106
      replace hs85 := hs85.mono hG106
      replace hrs := hrs.mono hG106
      replace hz := hz.mono hG106
      refine O_yes 102 rfl rfl (S_call (H1 := []) hs rfl Tryz.func14 rfl (by kernel_rfl) (same_ok hx hj1) fun v9 G' H' _ hR hG107 hs => ?_)
      obtain ⟨rfl, rfl⟩ := hR
      replace hs : St _ _ [_, _, _] _ := hs
      replace hb := hb.mono hG107
      replace hT := hT.mono hG107
      replace hm := hm.mono hG107
      replace hp1 := hp1.mono hG107
      replace hp2 := hp2.mono hG107
      replace hx := hx.mono hG107
      replace hy := hy.mono hG107
      replace hs75 := hs75.mono hG107
      replace hhd := hhd.mono hG107
      replace hs85 := hs85.mono hG107
      replace hrs := hrs.mono hG107
      replace hz := hz.mono hG107
      replace hj1 := hj1.mono hG107
      rw [decide_eq_true (show _ = _ from by rw [List.drop_zero, Nat.sub_zero]; exact unfold_first hne hS)]
      refine O_y hs (Y_pickT rfl rfl ?_)
      refine O_y hs (Y_move rfl ?_)
      refine O_yy 109 hs rfl rfl (Y_move rfl ?_)
      refine O_yy 109 hs rfl rfl (Y_move rfl ?_)
      refine O_yy 109 hs rfl rfl (Y_move rfl ?_)
      refine O_yes 109 rfl rfl (S_call (H1 := []) hs rfl Tryz.func22 rfl (by kernel_rfl) (join_ok hhd hz (by simp only [List.length_append, List.length_take]; omega) (by have hr2 := repF_len (old := F) hn4 (b.drop (i + F.length)) (b.drop (i + F.length)).length 0; rw [List.length_drop] at hr2; rw [List.length_drop]; omega)) fun v10 G' H' _ hR hG113 hs => ?_)
      obtain ⟨rfl, hj2⟩ := hR
      replace hs : St _ _ [_, _, _] _ := hs
      replace hb := hb.mono hG113
      replace hT := hT.mono hG113
      replace hm := hm.mono hG113
      replace hp1 := hp1.mono hG113
      replace hp2 := hp2.mono hG113
      replace hx := hx.mono hG113
      replace hy := hy.mono hG113
      replace hs75 := hs75.mono hG113
      replace hhd := hhd.mono hG113
      replace hs85 := hs85.mono hG113
      replace hrs := hrs.mono hG113
      replace hz := hz.mono hG113
      replace hj1 := hj1.mono hG113
      refine O_yes 109 rfl rfl (S_call (H1 := []) hs rfl Tryz.func14 rfl (by kernel_rfl) (same_ok hy hj2) fun v11 G' H' _ hR hG114 hs => ?_)
      obtain ⟨rfl, rfl⟩ := hR
      replace hs : St _ _ [_, _, _] _ := hs
      replace hb := hb.mono hG114
      replace hT := hT.mono hG114
      replace hm := hm.mono hG114
      replace hp1 := hp1.mono hG114
      replace hp2 := hp2.mono hG114
      replace hx := hx.mono hG114
      replace hy := hy.mono hG114
      replace hs75 := hs75.mono hG114
      replace hhd := hhd.mono hG114
      replace hs85 := hs85.mono hG114
      replace hrs := hrs.mono hG114
      replace hz := hz.mono hG114
      replace hj1 := hj1.mono hG114
      replace hj2 := hj2.mono hG114
      rw [decide_eq_true (show _ = _ from by rw [List.drop_zero, Nat.sub_zero]; exact unfold_all hne hS)]
      refine O_y hs (Y_pickT rfl rfl ?_)
      refine O_y hs (Y_assign rfl ?_)
      refine O_nil (T_sub [(4, _)] ⟨rfl, trivial⟩ ?_)
      refine T_ret ?_
      refine Rt_fin (vs := [_]) Tryz.results5 rfl ⟨rfl, trivial⟩ ?_
      try dsimp only [tup]
      exact ⟨_, [], hs.done, rfl, rfl⟩
  · -- h41: False
    dsimp only [cmpP] at h41
    refine O_y hs (Y_move rfl ?_)
    refine O_no 42 rfl rfl ?_
    refine O_no 42 rfl rfl ?_
    refine O_no 42 rfl rfl ?_
    refine O_no 42 rfl rfl ?_
    refine O_no 42 rfl rfl ?_
    refine O_no 42 rfl rfl ?_
    refine O_y hs (Y_pickF rfl rfl ?_)
    refine O_nil (T_sub [(1, _), (5, _), (6, _), (7, _), (8, _), (9, _), (10, _), (11, _), (12, _), (49, _)] ⟨rfl, rfl, rfl, rfl, rfl, rfl, rfl, rfl, rfl, rfl, trivial⟩ ?_)
    refine T_condF rfl (T_exit ?_)
    refine T_seq (T_seq (T_region rfl ?_))
    refine O_y hs (Y_move rfl ?_)
    refine O_y hs (Y_move rfl ?_)
    refine O_y hs (Y_len Tryz.underlying22 rfl ?_)
    refine O_y hs (Y_cmpT rfl rfl rfl (by simp only [cmpP]; omega) ?_)
    refine O_nil (T_sub [(1, _), (5, _), (6, _), (7, _), (8, _), (9, _), (10, _), (11, _), (12, _), (55, _)] ⟨rfl, rfl, rfl, rfl, rfl, rfl, rfl, rfl, rfl, rfl, trivial⟩ ?_)
    obtain rfl : i = b.length := by omega
    have hN := idxF_end hne hix
    refine T_condT rfl (T_seq (T_region rfl ?_))
    refine O_y hs (Y_move rfl ?_)
    refine O_y hs (Y_move rfl ?_)
    refine O_yy 57 hs rfl rfl (Y_move rfl ?_)
    refine O_y hs (Y_pickT rfl rfl ?_)
    refine O_y hs (Y_move rfl ?_)
    refine O_yy 60 hs rfl rfl (Y_move rfl ?_)
    refine O_y hs (Y_pickT rfl rfl ?_)
    refine O_y hs (Y_move rfl ?_)
    refine O_yy 63 hs rfl rfl (Y_move rfl ?_)
    refine O_yy 63 hs rfl rfl (Y_move rfl ?_)
    refine O_yes 63 rfl rfl (S_call (H1 := []) hs rfl Tryz.func14 rfl (by kernel_rfl) (same_ok hx hb) fun v12 G' H' _ hR hG66 hs => ?_)
    obtain ⟨rfl, rfl⟩ := hR
    replace hs : St _ _ [_, _, _] _ := hs
    replace hb := hb.mono hG66
    replace hT := hT.mono hG66
    replace hm := hm.mono hG66
    replace hp1 := hp1.mono hG66
    replace hp2 := hp2.mono hG66
    replace hx := hx.mono hG66
    replace hy := hy.mono hG66
    rw [decide_eq_true (show _ = _ from repF_none _ _ _ _ hN)]
    refine O_y hs (Y_pickT rfl rfl ?_)
    refine O_y hs (Y_move rfl ?_)
    refine O_yy 68 hs rfl rfl (Y_move rfl ?_)
    refine O_yy 68 hs rfl rfl (Y_move rfl ?_)
    refine O_yes 68 rfl rfl (S_call (H1 := []) hs rfl Tryz.func14 rfl (by kernel_rfl) (same_ok hy hb) fun v13 G' H' _ hR hG71 hs => ?_)
    obtain ⟨rfl, rfl⟩ := hR
    replace hs : St _ _ [_, _, _] _ := hs
    replace hb := hb.mono hG71
    replace hT := hT.mono hG71
    replace hm := hm.mono hG71
    replace hp1 := hp1.mono hG71
    replace hp2 := hp2.mono hG71
    replace hx := hx.mono hG71
    replace hy := hy.mono hG71
    rw [decide_eq_true (show _ = _ from repF_none _ _ _ _ hN)]
    refine O_y hs (Y_pickT rfl rfl ?_)
    refine O_y hs (Y_assign rfl ?_)
    refine O_nil (T_sub [(4, _)] ⟨rfl, trivial⟩ ?_)
    refine T_ret ?_
    refine Rt_fin (vs := [_]) Tryz.results5 rfl ⟨rfl, trivial⟩ ?_
    try dsimp only [tup]
    exact ⟨_, [], hs.done, rfl, rfl⟩

end Go.Proofs.YtffbfibpfnlfeaaGreatDoor
