import Derived.Test.YtacchhkefnokdaaExWalks
namespace Go.Proofs.Ytacchhkefnokdaa
open Go Go.Ex Go.RowKit


set_option maxHeartbeats 400000 in
set_option maxRecDepth 10000 in
theorem law3 {vL vT vC vd : Value} {G : Ghost} {L : List (List UInt8)} {T : List UInt8} {C : List Int} {d : Dec} {n : Int} (hL : LBytes G vL L) (hT : Bytes G vT T) (hC : Ints G vC C) (hd : DecR G vd d) (_hx : -9223372036854775808 ≤ n ∧ n ≤ 9223372036854775807) :
    FnOk Try.prog 3 [.agg #[vL, vT, vC], vd, .int .i64 n] G [] fun r _ H' => H' = [] ∧ r = .bool true := by
  obtain ⟨vl, hL1, hL2⟩ := id hL
  obtain ⟨AL, cL, rfl, hL3⟩ := id hL1
  obtain ⟨AT, cT, rfl, _⟩ := id hT
  obtain ⟨AC, cC, rfl, _⟩ := id hC
  obtain ⟨u, rfl, hu⟩ := hd
  obtain ⟨A, cap, rfl, hu'⟩ := id hu
  have hwl := wireF_len L T
  obtain ⟨q, hq⟩ : ∃ q, feedF (⟨(d.rest.drop 0).take (min d.rest.length 5000 - 0), d.credit, d.failed⟩ : Dec) (wireF L T) = q := ⟨_, rfl⟩
  obtain ⟨p, hp⟩ : ∃ p, newF n = p := ⟨_, rfl⟩
  obtain ⟨g, hg⟩ : ∃ g, grantF (⟨(d.rest.drop 0).take (min d.rest.length 5000 - 0), d.credit, d.failed⟩ : Dec) n = g := ⟨_, rfl⟩
  have hql : q.2.1.length ≤ 10000 := by have := feedF_msgs_le (⟨(d.rest.drop 0).take (min d.rest.length 5000 - 0), d.credit, d.failed⟩ : Dec) (wireF L T); rw [hq] at this; omega
  refine FnOk.of_T [(0, _), (1, _), (2, _)] Try.func3 rfl Try.ntmps3 (by simp) rfl fun w0 hs => ?_
  have hL0 := hL
  have hT0 := hT
  have hC0 := hC
  have hu0 := hu
  refine T_seq (T_region rfl ?_)
  refine O_s (S_box hs rfl (cs := [_, _, _]) rfl fun b3 _ hs => ?_)
  refine O_s (S_box hs rfl (cs := [_, _, _]) rfl fun b4 _ hs => ?_)
  refine O_y hs (Y_assign rfl ?_)
  refine O_nil (T_sub [(2, _), (3, _), (4, _)] ⟨rfl, rfl, rfl, trivial⟩ ?_)
  refine T_seq (T_region rfl ?_)
  refine O_s (S_call (H1 := []) hs rfl Try.func11 rfl (by kernel_rfl) (sanity_ok) fun v1 G' H' _ hR hG27 hs => ?_)
  obtain ⟨rfl, rfl⟩ := hR
  replace hs : St _ _ [_, _] _ := hs
  replace hL := hL.mono hG27
  replace hT := hT.mono hG27
  replace hC := hC.mono hG27
  replace hu := hu.mono hG27
  refine O_y hs (Y_assign rfl ?_)
  refine O_nil (T_sub [(2, _), (3, _), (4, _), (7, _)] ⟨rfl, rfl, rfl, rfl, trivial⟩ ?_)
  refine T_seq (T_region rfl ?_)
  refine O_y hs (Y_ldA 1 Try.isAgg26 Try.sizeOf26 rfl rfl (vs := [_, _, _]) rfl rfl ?_)
  refine O_s (S_call (H1 := []) hs rfl Try.func12 rfl (by kernel_rfl) (bytes_ok hL hT rfl) fun v2 G' H' _ hR hG29 hs => ?_)
  obtain ⟨rfl, hw⟩ := hR
  obtain ⟨A29, c29, rfl, _⟩ := id hw
  replace hs : St _ _ [_, _] _ := hs
  replace hL := hL.mono hG29
  replace hT := hT.mono hG29
  replace hC := hC.mono hG29
  replace hu := hu.mono hG29
  refine O_y hs (Y_assign rfl ?_)
  refine O_nil (T_sub [(2, _), (3, _), (4, _), (7, _), (8, _)] ⟨rfl, rfl, rfl, rfl, rfl, trivial⟩ ?_)
  refine T_seq (T_region rfl ?_)
  refine O_y hs (Y_fieldAddr FO28_0 rfl (m := 0) rfl ?_)
  refine O_y hs (Y_ld 0 Try.isAgg23 rfl rfl rfl ?_)
  refine O_y hs (Y_fieldAddr FO28_0 rfl (m := 0) rfl ?_)
  refine O_y hs (Y_ld 0 Try.isAgg23 rfl rfl rfl ?_)
  refine O_y hs (Y_len Try.underlying23 rfl ?_)
  refine O_y hs (Y_min (c := ((min d.rest.length 5000 : Nat) : Int)) rfl rfl (by omega) ?_)
  refine O_y hs (Y_sliceB hu 0 (min d.rest.length 5000) Try.underlying23 Try.sizeOf5 rfl rfl ⟨_, _, rfl, rfl⟩ (by omega) (by omega) fun s36 hs36 => ?_)
  obtain ⟨A36, c36, rfl, _⟩ := id hs36
  refine O_y hs (Y_fieldAddr FO28_0 rfl (m := 0) rfl ?_)
  refine O_n (S_st hs Try.sizeOf23 rfl rfl rfl (by simp) (cs' := [_, _, _]) rfl fun _ hs => ?_)
  refine O_nil (T_sub [(2, _), (3, _), (4, _), (7, _), (8, _)] ⟨rfl, rfl, rfl, rfl, rfl, trivial⟩ ?_)
  refine T_seq (T_region rfl ?_)
  refine O_y hs (Y_ldA 0 Try.isAgg28 Try.sizeOf28 rfl rfl (vs := [_, _, _]) rfl rfl ?_)
  refine O_y hs (Y_move rfl ?_)
  refine O_s (S_call (H1 := []) hs rfl Try.func13 rfl (by kernel_rfl) (feed_eq (d := (⟨(d.rest.drop 0).take (min d.rest.length 5000 - 0), d.credit, d.failed⟩ : Dec)) q ⟨_, rfl, hs36⟩ hw (by omega) hq) fun v3 G' H' _ hR hG41 hs => ?_)
  obtain ⟨rfl, dv41, mv41, rfl, ⟨u41, rfl, hu41⟩, hm41⟩ := hR
  replace hs : St _ _ [_, _] _ := hs
  replace hL := hL.mono hG41
  replace hT := hT.mono hG41
  replace hC := hC.mono hG41
  replace hu := hu.mono hG41
  replace hw := hw.mono hG41
  replace hs36 := hs36.mono hG41
  obtain ⟨Au41, cu41, rfl, _⟩ := id hu41
  obtain ⟨vs41, hsl41, hvs41⟩ := id hm41
  obtain ⟨A41, c41, rfl, _⟩ := id hsl41
  refine O_y hs (Y_move rfl ?_)
  refine O_y hs (Y_extract rfl rfl ?_)
  refine O_y hs (Y_extract rfl rfl ?_)
  refine O_y hs (Y_extract rfl rfl ?_)
  refine O_s (S_alloc hs Try.zeroValue28 (cs := [_, _, _]) rfl fun b9 _ hs => ?_)
  refine O_n (S_stA hs Try.sizeOf28 rfl rfl (vs := [_, _, _]) rfl rfl (by simp) (cs' := [_, _, _]) rfl fun _ hs => ?_)
  refine O_y hs (Y_assign rfl ?_)
  refine O_y hs (Y_assign rfl ?_)
  refine O_nil (T_sub [(2, _), (3, _), (4, _), (7, _), (8, _), (9, _), (10, _), (11, _)] ⟨rfl, rfl, rfl, rfl, rfl, rfl, rfl, rfl, trivial⟩ ?_)
  refine T_seq (T_region rfl ?_)
  refine O_y hs (Y_ldA 1 Try.isAgg28 Try.sizeOf28 rfl rfl (vs := [_, _, _]) rfl rfl ?_)
  refine O_y hs (Y_move rfl ?_)
  refine O_s (S_call (H1 := []) hs rfl Try.func14 rfl (by kernel_rfl) (feedR_eq (d := (⟨(d.rest.drop 0).take (min d.rest.length 5000 - 0), d.credit, d.failed⟩ : Dec)) q ⟨_, rfl, hs36⟩ hw (by omega) hq) fun v4 G' H' _ hR hG48 hs => ?_)
  obtain ⟨rfl, dv48, mv48, rfl, ⟨u48, rfl, hu48⟩, hm48⟩ := hR
  replace hs : St _ _ [_, _, _] _ := hs
  replace hL := hL.mono hG48
  replace hT := hT.mono hG48
  replace hC := hC.mono hG48
  replace hu := hu.mono hG48
  replace hw := hw.mono hG48
  replace hs36 := hs36.mono hG48
  replace hu41 := hu41.mono hG48
  replace hm41 := hm41.mono hG48
  obtain ⟨Au48, cu48, rfl, _⟩ := id hu48
  obtain ⟨vs48, hsl48, hvs48⟩ := id hm48
  obtain ⟨A48, c48, rfl, _⟩ := id hsl48
  refine O_y hs (Y_move rfl ?_)
  refine O_y hs (Y_extract rfl rfl ?_)
  refine O_y hs (Y_extract rfl rfl ?_)
  refine O_y hs (Y_extract rfl rfl ?_)
  refine O_s (S_alloc hs Try.zeroValue28 (cs := [_, _, _]) rfl fun b12 _ hs => ?_)
  refine O_n (S_stA hs Try.sizeOf28 rfl rfl (vs := [_, _, _]) rfl rfl (by simp) (cs' := [_, _, _]) rfl fun _ hs => ?_)
  refine O_y hs (Y_assign rfl ?_)
  refine O_y hs (Y_assign rfl ?_)
  refine O_nil (T_sub [(2, _), (3, _), (4, _), (7, _), (8, _), (9, _), (10, _), (11, _), (12, _), (13, _), (14, _)] ⟨rfl, rfl, rfl, rfl, rfl, rfl, rfl, rfl, rfl, rfl, rfl, trivial⟩ ?_)
  refine T_seq (T_region rfl ?_)
  refine O_y hs (Y_move rfl ?_)
  refine O_s (S_call (H1 := []) hs rfl Try.func15 rfl (by kernel_rfl) (new_eq p hp) fun v5 G' H' _ hR hG54 hs => ?_)
  obtain ⟨rfl, dv54, rfl, u54, rfl, hu54⟩ := hR
  replace hs : St _ _ [_, _, _, _] _ := hs
  replace hL := hL.mono hG54
  replace hT := hT.mono hG54
  replace hC := hC.mono hG54
  replace hu := hu.mono hG54
  replace hw := hw.mono hG54
  replace hs36 := hs36.mono hG54
  replace hu41 := hu41.mono hG54
  replace hm41 := hm41.mono hG54
  replace hu48 := hu48.mono hG54
  replace hm48 := hm48.mono hG54
  obtain ⟨Au54, cu54, rfl, _⟩ := id hu54
  refine O_y hs (Y_move rfl ?_)
  refine O_y hs (Y_extract rfl rfl ?_)
  refine O_y hs (Y_extract rfl rfl ?_)
  refine O_s (S_alloc hs Try.zeroValue28 (cs := [_, _, _]) rfl fun b15 _ hs => ?_)
  refine O_n (S_stA hs Try.sizeOf28 rfl rfl (vs := [_, _, _]) rfl rfl (by simp) (cs' := [_, _, _]) rfl fun _ hs => ?_)
  refine O_y hs (Y_assign rfl ?_)
  refine O_nil (T_sub [(2, _), (3, _), (4, _), (7, _), (8, _), (9, _), (10, _), (11, _), (12, _), (13, _), (14, _), (15, _), (16, _)] ⟨rfl, rfl, rfl, rfl, rfl, rfl, rfl, rfl, rfl, rfl, rfl, rfl, rfl, trivial⟩ ?_)
  refine T_seq (T_region rfl ?_)
  refine O_y hs (Y_move rfl ?_)
  refine O_s (S_call (H1 := []) hs rfl Try.func16 rfl (by kernel_rfl) (newR_eq p hp) fun v6 G' H' _ hR hG59 hs => ?_)
  obtain ⟨rfl, dv59, rfl, u59, rfl, hu59⟩ := hR
  replace hs : St _ _ [_, _, _, _, _] _ := hs
  replace hL := hL.mono hG59
  replace hT := hT.mono hG59
  replace hC := hC.mono hG59
  replace hu := hu.mono hG59
  replace hw := hw.mono hG59
  replace hs36 := hs36.mono hG59
  replace hu41 := hu41.mono hG59
  replace hm41 := hm41.mono hG59
  replace hu48 := hu48.mono hG59
  replace hm48 := hm48.mono hG59
  replace hu54 := hu54.mono hG59
  obtain ⟨Au59, cu59, rfl, _⟩ := id hu59
  refine O_y hs (Y_move rfl ?_)
  refine O_y hs (Y_extract rfl rfl ?_)
  refine O_y hs (Y_extract rfl rfl ?_)
  refine O_s (S_alloc hs Try.zeroValue28 (cs := [_, _, _]) rfl fun b17 _ hs => ?_)
  refine O_n (S_stA hs Try.sizeOf28 rfl rfl (vs := [_, _, _]) rfl rfl (by simp) (cs' := [_, _, _]) rfl fun _ hs => ?_)
  refine O_y hs (Y_assign rfl ?_)
  refine O_nil (T_sub [(2, _), (3, _), (4, _), (7, _), (8, _), (9, _), (10, _), (11, _), (12, _), (13, _), (14, _), (15, _), (16, _), (17, _), (18, _)] ⟨rfl, rfl, rfl, rfl, rfl, rfl, rfl, rfl, rfl, rfl, rfl, rfl, rfl, rfl, rfl, trivial⟩ ?_)
  refine T_seq (T_region rfl ?_)
  refine O_y hs (Y_ldA 4 Try.isAgg28 Try.sizeOf28 rfl rfl (vs := [_, _, _]) rfl rfl ?_)
  refine O_y hs (Y_move rfl ?_)
  refine O_s (S_call (H1 := []) hs rfl Try.func17 rfl (by kernel_rfl) (grant_eq (d := (⟨(d.rest.drop 0).take (min d.rest.length 5000 - 0), d.credit, d.failed⟩ : Dec)) g ⟨_, rfl, hs36⟩ hg) fun v7 G' H' _ hR hG65 hs => ?_)
  obtain ⟨rfl, dv65, rfl, u65, rfl, hu65⟩ := hR
  replace hs : St _ _ [_, _, _, _, _, _] _ := hs
  replace hL := hL.mono hG65
  replace hT := hT.mono hG65
  replace hC := hC.mono hG65
  replace hu := hu.mono hG65
  replace hw := hw.mono hG65
  replace hs36 := hs36.mono hG65
  replace hu41 := hu41.mono hG65
  replace hm41 := hm41.mono hG65
  replace hu48 := hu48.mono hG65
  replace hm48 := hm48.mono hG65
  replace hu54 := hu54.mono hG65
  replace hu59 := hu59.mono hG65
  obtain ⟨Au65, cu65, rfl, _⟩ := id hu65
  refine O_y hs (Y_move rfl ?_)
  refine O_y hs (Y_extract rfl rfl ?_)
  refine O_y hs (Y_extract rfl rfl ?_)
  refine O_s (S_alloc hs Try.zeroValue28 (cs := [_, _, _]) rfl fun b19 _ hs => ?_)
  refine O_n (S_stA hs Try.sizeOf28 rfl rfl (vs := [_, _, _]) rfl rfl (by simp) (cs' := [_, _, _]) rfl fun _ hs => ?_)
  refine O_y hs (Y_assign rfl ?_)
  refine O_nil (T_sub [(2, _), (3, _), (4, _), (7, _), (8, _), (9, _), (10, _), (11, _), (12, _), (13, _), (14, _), (15, _), (16, _), (17, _), (18, _), (19, _), (20, _)] ⟨rfl, rfl, rfl, rfl, rfl, rfl, rfl, rfl, rfl, rfl, rfl, rfl, rfl, rfl, rfl, rfl, rfl, trivial⟩ ?_)
  refine T_seq (T_region rfl ?_)
  refine O_y hs (Y_ldA 5 Try.isAgg28 Try.sizeOf28 rfl rfl (vs := [_, _, _]) rfl rfl ?_)
  refine O_y hs (Y_move rfl ?_)
  refine O_s (S_call (H1 := []) hs rfl Try.func18 rfl (by kernel_rfl) (grantR_eq (d := (⟨(d.rest.drop 0).take (min d.rest.length 5000 - 0), d.credit, d.failed⟩ : Dec)) g ⟨_, rfl, hs36⟩ hg) fun v8 G' H' _ hR hG71 hs => ?_)
  obtain ⟨rfl, dv71, rfl, u71, rfl, hu71⟩ := hR
  replace hs : St _ _ [_, _, _, _, _, _, _] _ := hs
  replace hL := hL.mono hG71
  replace hT := hT.mono hG71
  replace hC := hC.mono hG71
  replace hu := hu.mono hG71
  replace hw := hw.mono hG71
  replace hs36 := hs36.mono hG71
  replace hu41 := hu41.mono hG71
  replace hm41 := hm41.mono hG71
  replace hu48 := hu48.mono hG71
  replace hm48 := hm48.mono hG71
  replace hu54 := hu54.mono hG71
  replace hu59 := hu59.mono hG71
  replace hu65 := hu65.mono hG71
  obtain ⟨Au71, cu71, rfl, _⟩ := id hu71
  refine O_y hs (Y_move rfl ?_)
  refine O_y hs (Y_extract rfl rfl ?_)
  refine O_y hs (Y_extract rfl rfl ?_)
  refine O_s (S_alloc hs Try.zeroValue28 (cs := [_, _, _]) rfl fun b21 _ hs => ?_)
  refine O_n (S_stA hs Try.sizeOf28 rfl rfl (vs := [_, _, _]) rfl rfl (by simp) (cs' := [_, _, _]) rfl fun _ hs => ?_)
  refine O_y hs (Y_assign rfl ?_)
  refine O_nil (T_sub [(3, _), (7, _), (8, _), (9, _), (10, _), (11, _), (12, _), (13, _), (14, _), (15, _), (16, _), (17, _), (18, _), (19, _), (20, _), (21, _), (22, _)] ⟨rfl, rfl, rfl, rfl, rfl, rfl, rfl, rfl, rfl, rfl, rfl, rfl, rfl, rfl, rfl, rfl, rfl, trivial⟩ ?_)
  refine T_seq (T_region rfl ?_)
  refine O_y hs (Y_move rfl ?_)
  refine O_s (S_call (H1 := []) hs rfl Try.func19 rfl (by kernel_rfl) (frame_ok hw (by omega)) fun v9 G' H' _ hR hG76 hs => ?_)
  obtain ⟨rfl, u76, rfl, hu76⟩ := hR
  replace hs : St _ _ [_, _, _, _, _, _, _, _] _ := hs
  replace hL := hL.mono hG76
  replace hT := hT.mono hG76
  replace hC := hC.mono hG76
  replace hu := hu.mono hG76
  replace hw := hw.mono hG76
  replace hs36 := hs36.mono hG76
  replace hu41 := hu41.mono hG76
  replace hm41 := hm41.mono hG76
  replace hu48 := hu48.mono hG76
  replace hm48 := hm48.mono hG76
  replace hu54 := hu54.mono hG76
  replace hu59 := hu59.mono hG76
  replace hu65 := hu65.mono hG76
  replace hu71 := hu71.mono hG76
  obtain ⟨Au76, cu76, rfl, _⟩ := id hu76
  refine O_y hs (Y_move rfl ?_)
  refine O_y hs (Y_extract rfl rfl ?_)
  refine O_y hs (Y_extract rfl rfl ?_)
  refine O_y hs (Y_assign rfl ?_)
  refine O_y hs (Y_assign rfl ?_)
  refine O_nil (T_sub [(3, _), (7, _), (8, _), (9, _), (10, _), (11, _), (12, _), (13, _), (14, _), (15, _), (16, _), (17, _), (18, _), (19, _), (20, _), (21, _), (22, _), (23, _), (24, _)] ⟨rfl, rfl, rfl, rfl, rfl, rfl, rfl, rfl, rfl, rfl, rfl, rfl, rfl, rfl, rfl, rfl, rfl, rfl, rfl, trivial⟩ ?_)
  refine T_seq (T_region rfl ?_)
  refine O_y hs (Y_move rfl ?_)
  refine O_s (S_call (H1 := []) hs rfl Try.func20 rfl (by kernel_rfl) (frameR_ok hw (by omega)) fun v10 G' H' _ hR hG81 hs => ?_)
  obtain ⟨rfl, u81, rfl, hu81⟩ := hR
  replace hs : St _ _ [_, _, _, _, _, _, _, _] _ := hs
  replace hL := hL.mono hG81
  replace hT := hT.mono hG81
  replace hC := hC.mono hG81
  replace hu := hu.mono hG81
  replace hw := hw.mono hG81
  replace hs36 := hs36.mono hG81
  replace hu41 := hu41.mono hG81
  replace hm41 := hm41.mono hG81
  replace hu48 := hu48.mono hG81
  replace hm48 := hm48.mono hG81
  replace hu54 := hu54.mono hG81
  replace hu59 := hu59.mono hG81
  replace hu65 := hu65.mono hG81
  replace hu71 := hu71.mono hG81
  replace hu76 := hu76.mono hG81
  obtain ⟨Au81, cu81, rfl, _⟩ := id hu81
  refine O_y hs (Y_move rfl ?_)
  refine O_y hs (Y_extract rfl rfl ?_)
  refine O_y hs (Y_extract rfl rfl ?_)
  refine O_y hs (Y_assign rfl ?_)
  refine O_y hs (Y_assign rfl ?_)
  refine O_nil (T_sub [(3, _), (7, _), (8, _), (9, _), (10, _), (11, _), (12, _), (13, _), (14, _), (15, _), (16, _), (17, _), (18, _), (19, _), (20, _), (21, _), (22, _), (23, _), (24, _), (25, _), (26, _)] ⟨rfl, rfl, rfl, rfl, rfl, rfl, rfl, rfl, rfl, rfl, rfl, rfl, rfl, rfl, rfl, rfl, rfl, rfl, rfl, rfl, rfl, trivial⟩ ?_)
  refine T_seq (T_drawS [0, 1, 2, 3, 4, 5, 6, 7, 8, 9, 10, 11, 12, 13, 14, 15, 16, 17, 18, 19, 20, 21, 22, 23, 24, 25, 26, 27, 28, 29, 30, 31, 32, 33, 34, 35, 36, 37, 38, 39, 40, 41, 42, 43, 44, 45, 46, 47, 48, 49, 50, 51, 52, 53, 54, 55, 56, 57, 58, 59] hs (by kernel_rfl) ?_)
  replace hs := hs.drew
  refine A_take 0 rfl (by kernel_rfl) rfl hs (Y_ldA 5 Try.isAgg28 Try.sizeOf28 rfl rfl (vs := [_, _, _]) rfl rfl ?_)
  refine A_take 1 rfl (by kernel_rfl) rfl hs (Y_ldA 4 Try.isAgg28 Try.sizeOf28 rfl rfl (vs := [_, _, _]) rfl rfl ?_)
  have hle := hs.le
  refine A_only 2 rfl (by kernel_rfl) rfl (S_call (H1 := []) hs rfl Try.func21 rfl (by kernel_rfl) (same_eq (d := q.1) (e := q.1) ⟨_, rfl, hu41⟩ ⟨_, rfl, hu48⟩ true (by simp)) fun v11 G' H' _ hR hG86 hs => ?_)
  obtain ⟨rfl, rfl⟩ := hR
  replace hs : St _ _ [_, _, _, _, _, _, _, _] _ := hs
  replace hL := hL.mono hG86
  replace hT := hT.mono hG86
  replace hC := hC.mono hG86
  replace hu := hu.mono hG86
  replace hw := hw.mono hG86
  replace hs36 := hs36.mono hG86
  replace hu41 := hu41.mono hG86
  replace hm41 := hm41.mono hG86
  replace hu48 := hu48.mono hG86
  replace hm48 := hm48.mono hG86
  replace hu54 := hu54.mono hG86
  replace hu59 := hu59.mono hG86
  replace hu65 := hu65.mono hG86
  replace hu71 := hu71.mono hG86
  replace hu76 := hu76.mono hG86
  replace hu81 := hu81.mono hG86
  refine A_moreS hs hle hG86 (List.Sublist.refl _) ?_
  refine A_take 3 rfl (by kernel_rfl) rfl hs (Y_move rfl ?_)
  refine A_take 4 rfl (by kernel_rfl) rfl hs (Y_move rfl ?_)
  refine A_take 5 rfl (by kernel_rfl) rfl hs (Y_move rfl ?_)
  have hle := hs.le
  refine A_only 6 rfl (by kernel_rfl) rfl (S_call (H1 := []) hs rfl Try.func22 rfl (by kernel_rfl) (sameBytes_eq hm41 hm48 (by omega) true (by simp)) fun v12 G' H' _ hR hG90 hs => ?_)
  obtain ⟨rfl, rfl⟩ := hR
  replace hs : St _ _ [_, _, _, _, _, _, _, _] _ := hs
  replace hL := hL.mono hG90
  replace hT := hT.mono hG90
  replace hC := hC.mono hG90
  replace hu := hu.mono hG90
  replace hw := hw.mono hG90
  replace hs36 := hs36.mono hG90
  replace hu41 := hu41.mono hG90
  replace hm41 := hm41.mono hG90
  replace hu48 := hu48.mono hG90
  replace hm48 := hm48.mono hG90
  replace hu54 := hu54.mono hG90
  replace hu59 := hu59.mono hG90
  replace hu65 := hu65.mono hG90
  replace hu71 := hu71.mono hG90
  replace hu76 := hu76.mono hG90
  replace hu81 := hu81.mono hG90
  refine A_moreS hs hle hG90 (List.Sublist.refl _) ?_
  refine A_take 7 rfl (by kernel_rfl) rfl hs (Y_pickT rfl rfl ?_)
  refine A_take 8 rfl (by kernel_rfl) rfl hs (Y_move rfl ?_)
  refine A_take 9 rfl (by kernel_rfl) rfl hs (Y_move rfl ?_)
  refine A_take 10 rfl (by kernel_rfl) rfl hs (Y_move rfl ?_)
  refine A_take 11 rfl (by kernel_rfl) rfl hs (Y_cmpT rfl rfl rfl (rfl) ?_)
  refine A_take 12 rfl (by kernel_rfl) rfl hs (Y_pickT rfl rfl ?_)
  refine A_take 13 rfl (by kernel_rfl) rfl hs (Y_move rfl ?_)
  refine A_take 14 rfl (by kernel_rfl) rfl hs (Y_ldA 3 Try.isAgg28 Try.sizeOf28 rfl rfl (vs := [_, _, _]) rfl rfl ?_)
  refine A_take 15 rfl (by kernel_rfl) rfl hs (Y_ldA 2 Try.isAgg28 Try.sizeOf28 rfl rfl (vs := [_, _, _]) rfl rfl ?_)
  have hle := hs.le
  refine A_only 16 rfl (by kernel_rfl) rfl (S_call (H1 := []) hs rfl Try.func21 rfl (by kernel_rfl) (same_eq (d := p.1) (e := p.1) ⟨_, rfl, hu54⟩ ⟨_, rfl, hu59⟩ true (by simp)) fun v13 G' H' _ hR hG100 hs => ?_)
  obtain ⟨rfl, rfl⟩ := hR
  replace hs : St _ _ [_, _, _, _, _, _, _, _] _ := hs
  replace hL := hL.mono hG100
  replace hT := hT.mono hG100
  replace hC := hC.mono hG100
  replace hu := hu.mono hG100
  replace hw := hw.mono hG100
  replace hs36 := hs36.mono hG100
  replace hu41 := hu41.mono hG100
  replace hm41 := hm41.mono hG100
  replace hu48 := hu48.mono hG100
  replace hm48 := hm48.mono hG100
  replace hu54 := hu54.mono hG100
  replace hu59 := hu59.mono hG100
  replace hu65 := hu65.mono hG100
  replace hu71 := hu71.mono hG100
  replace hu76 := hu76.mono hG100
  replace hu81 := hu81.mono hG100
  refine A_moreS hs hle hG100 (List.Sublist.refl _) ?_
  refine A_take 17 rfl (by kernel_rfl) rfl hs (Y_pickT rfl rfl ?_)
  refine A_take 18 rfl (by kernel_rfl) rfl hs (Y_move rfl ?_)
  refine A_take 19 rfl (by kernel_rfl) rfl hs (Y_move rfl ?_)
  refine A_take 20 rfl (by kernel_rfl) rfl hs (Y_move rfl ?_)
  refine A_take 21 rfl (by kernel_rfl) rfl hs (Y_cmpT rfl rfl rfl (rfl) ?_)
  refine A_take 22 rfl (by kernel_rfl) rfl hs (Y_pickT rfl rfl ?_)
  refine A_take 23 rfl (by kernel_rfl) rfl hs (Y_move rfl ?_)
  refine A_take 24 rfl (by kernel_rfl) rfl hs (Y_ldA 1 Try.isAgg28 Try.sizeOf28 rfl rfl (vs := [_, _, _]) rfl rfl ?_)
  refine A_take 25 rfl (by kernel_rfl) rfl hs (Y_ldA 0 Try.isAgg28 Try.sizeOf28 rfl rfl (vs := [_, _, _]) rfl rfl ?_)
  have hle := hs.le
  refine A_only 26 rfl (by kernel_rfl) rfl (S_call (H1 := []) hs rfl Try.func21 rfl (by kernel_rfl) (same_eq (d := g.1) (e := g.1) ⟨_, rfl, hu65⟩ ⟨_, rfl, hu71⟩ true (by simp)) fun v14 G' H' _ hR hG110 hs => ?_)
  obtain ⟨rfl, rfl⟩ := hR
  replace hs : St _ _ [_, _, _, _, _, _, _, _] _ := hs
  replace hL := hL.mono hG110
  replace hT := hT.mono hG110
  replace hC := hC.mono hG110
  replace hu := hu.mono hG110
  replace hw := hw.mono hG110
  replace hs36 := hs36.mono hG110
  replace hu41 := hu41.mono hG110
  replace hm41 := hm41.mono hG110
  replace hu48 := hu48.mono hG110
  replace hm48 := hm48.mono hG110
  replace hu54 := hu54.mono hG110
  replace hu59 := hu59.mono hG110
  replace hu65 := hu65.mono hG110
  replace hu71 := hu71.mono hG110
  replace hu76 := hu76.mono hG110
  replace hu81 := hu81.mono hG110
  refine A_moreS hs hle hG110 (List.Sublist.refl _) ?_
  refine A_take 27 rfl (by kernel_rfl) rfl hs (Y_pickT rfl rfl ?_)
  refine A_take 28 rfl (by kernel_rfl) rfl hs (Y_move rfl ?_)
  refine A_take 29 rfl (by kernel_rfl) rfl hs (Y_move rfl ?_)
  refine A_take 30 rfl (by kernel_rfl) rfl hs (Y_move rfl ?_)
  refine A_take 31 rfl (by kernel_rfl) rfl hs (Y_cmpT rfl rfl rfl (rfl) ?_)
  refine A_take 32 rfl (by kernel_rfl) rfl hs (Y_pickT rfl rfl ?_)
  refine A_take 33 rfl (by kernel_rfl) rfl hs (Y_move rfl ?_)
  refine A_take 34 rfl (by kernel_rfl) rfl hs (Y_move rfl ?_)
  refine A_take 35 rfl (by kernel_rfl) rfl hs (Y_str Try.underlying23 Try.underlying5 Try.underlying9 rfl hu76 ?_)
  refine A_take 36 rfl (by kernel_rfl) rfl hs (Y_move rfl ?_)
  refine A_take 37 rfl (by kernel_rfl) rfl hs (Y_str Try.underlying23 Try.underlying5 Try.underlying9 rfl hu81 ?_)
  refine A_take 38 rfl (by kernel_rfl) rfl hs (Y_strEq rfl rfl (b := true) (by simp) ?_)
  refine A_take 39 rfl (by kernel_rfl) rfl hs (Y_pickT rfl rfl ?_)
  refine A_take 40 rfl (by kernel_rfl) rfl hs (Y_move rfl ?_)
  refine A_take 41 rfl (by kernel_rfl) rfl hs (Y_move rfl ?_)
  refine A_take 42 rfl (by kernel_rfl) rfl hs (Y_move rfl ?_)
  refine A_take 43 rfl (by kernel_rfl) rfl hs (Y_cmpT rfl rfl rfl (rfl) ?_)
  refine A_take 44 rfl (by kernel_rfl) rfl hs (Y_pickT rfl rfl ?_)
  refine A_take 45 rfl (by kernel_rfl) rfl hs (Y_move rfl ?_)
  refine A_take 46 rfl (by kernel_rfl) rfl hs (Y_move rfl ?_)
  refine A_take 47 rfl (by kernel_rfl) rfl hs (Y_ldA 7 Try.isAgg26 Try.sizeOf26 rfl rfl (vs := [_, _, _]) rfl rfl ?_)
  refine A_take 50 rfl (by kernel_rfl) rfl hs (Y_move rfl ?_)
  refine A_take 51 rfl (by kernel_rfl) rfl hs (Y_ldA 7 Try.isAgg26 Try.sizeOf26 rfl rfl (vs := [_, _, _]) rfl rfl ?_)
  have hle := hs.le
  refine A_only 48 rfl (by kernel_rfl) rfl (S_call (H1 := []) hs rfl Try.func24 rfl (by kernel_rfl) (cuts_ok hC) fun v15 G' H' _ hR hG132 hs => ?_)
  obtain ⟨rfl, hcu132⟩ := hR
  replace hs : St _ _ [_, _, _, _, _, _, _, _] _ := hs
  replace hL := hL.mono hG132
  replace hT := hT.mono hG132
  replace hC := hC.mono hG132
  replace hu := hu.mono hG132
  replace hw := hw.mono hG132
  replace hs36 := hs36.mono hG132
  replace hu41 := hu41.mono hG132
  replace hm41 := hm41.mono hG132
  replace hu48 := hu48.mono hG132
  replace hm48 := hm48.mono hG132
  replace hu54 := hu54.mono hG132
  replace hu59 := hu59.mono hG132
  replace hu65 := hu65.mono hG132
  replace hu71 := hu71.mono hG132
  replace hu76 := hu76.mono hG132
  replace hu81 := hu81.mono hG132
  obtain ⟨Ac132, cc132, rfl, _⟩ := id hcu132
  refine A_moreS hs hle hG132 (List.Sublist.refl _) ?_
  have hle := hs.le
  refine A_only 49 rfl (by kernel_rfl) rfl (S_call (H1 := []) hs rfl Try.func23 rfl (by kernel_rfl) (split_ok hw hcu132 (by omega) (by rw [List.length_take]; omega)) fun v16 G' H' _ hR hG133 hs => ?_)
  obtain ⟨rfl, hsp133⟩ := hR
  replace hs : St _ _ [_, _, _, _, _, _, _, _] _ := hs
  replace hL := hL.mono hG133
  replace hT := hT.mono hG133
  replace hC := hC.mono hG133
  replace hu := hu.mono hG133
  replace hw := hw.mono hG133
  replace hs36 := hs36.mono hG133
  replace hu41 := hu41.mono hG133
  replace hm41 := hm41.mono hG133
  replace hu48 := hu48.mono hG133
  replace hm48 := hm48.mono hG133
  replace hu54 := hu54.mono hG133
  replace hu59 := hu59.mono hG133
  replace hu65 := hu65.mono hG133
  replace hu71 := hu71.mono hG133
  replace hu76 := hu76.mono hG133
  replace hu81 := hu81.mono hG133
  replace hcu132 := hcu132.mono hG133
  refine A_moreS hs hle hG133 (List.Sublist.refl _) ?_
  have hle := hs.le
  refine A_only 52 rfl (by kernel_rfl) rfl (S_call (H1 := []) hs rfl Try.func24 rfl (by kernel_rfl) (cuts_ok hC) fun v17 G' H' _ hR hG136 hs => ?_)
  obtain ⟨rfl, hcu136⟩ := hR
  replace hs : St _ _ [_, _, _, _, _, _, _, _] _ := hs
  replace hL := hL.mono hG136
  replace hT := hT.mono hG136
  replace hC := hC.mono hG136
  replace hu := hu.mono hG136
  replace hw := hw.mono hG136
  replace hs36 := hs36.mono hG136
  replace hu41 := hu41.mono hG136
  replace hm41 := hm41.mono hG136
  replace hu48 := hu48.mono hG136
  replace hm48 := hm48.mono hG136
  replace hu54 := hu54.mono hG136
  replace hu59 := hu59.mono hG136
  replace hu65 := hu65.mono hG136
  replace hu71 := hu71.mono hG136
  replace hu76 := hu76.mono hG136
  replace hu81 := hu81.mono hG136
  replace hcu132 := hcu132.mono hG136
  replace hsp133 := hsp133.mono hG136
  obtain ⟨Ac136, cc136, rfl, _⟩ := id hcu136
  refine A_moreS hs hle hG136 (List.Sublist.refl _) ?_
  have hle := hs.le
  refine A_only 53 rfl (by kernel_rfl) rfl (S_call (H1 := []) hs rfl Try.func25 rfl (by kernel_rfl) (splitR_ok hw hcu136 (by omega) (by rw [List.length_take]; omega)) fun v18 G' H' _ hR hG137 hs => ?_)
  obtain ⟨rfl, hsp137⟩ := hR
  replace hs : St _ _ [_, _, _, _, _, _, _, _] _ := hs
  replace hL := hL.mono hG137
  replace hT := hT.mono hG137
  replace hC := hC.mono hG137
  replace hu := hu.mono hG137
  replace hw := hw.mono hG137
  replace hs36 := hs36.mono hG137
  replace hu41 := hu41.mono hG137
  replace hm41 := hm41.mono hG137
  replace hu48 := hu48.mono hG137
  replace hm48 := hm48.mono hG137
  replace hu54 := hu54.mono hG137
  replace hu59 := hu59.mono hG137
  replace hu65 := hu65.mono hG137
  replace hu71 := hu71.mono hG137
  replace hu76 := hu76.mono hG137
  replace hu81 := hu81.mono hG137
  replace hcu132 := hcu132.mono hG137
  replace hsp133 := hsp133.mono hG137
  replace hcu136 := hcu136.mono hG137
  refine A_moreS hs hle hG137 (List.Sublist.refl _) ?_
  have hle := hs.le
  refine A_only 54 rfl (by kernel_rfl) rfl (S_call (H1 := []) hs rfl Try.func22 rfl (by kernel_rfl) (sameBytes_eq hsp133 hsp137 (by rw [splitF_len, List.length_take]; omega) true (by simp)) fun v19 G' H' _ hR hG138 hs => ?_)
  obtain ⟨rfl, rfl⟩ := hR
  replace hs : St _ _ [_, _, _, _, _, _, _, _] _ := hs
  replace hL := hL.mono hG138
  replace hT := hT.mono hG138
  replace hC := hC.mono hG138
  replace hu := hu.mono hG138
  replace hw := hw.mono hG138
  replace hs36 := hs36.mono hG138
  replace hu41 := hu41.mono hG138
  replace hm41 := hm41.mono hG138
  replace hu48 := hu48.mono hG138
  replace hm48 := hm48.mono hG138
  replace hu54 := hu54.mono hG138
  replace hu59 := hu59.mono hG138
  replace hu65 := hu65.mono hG138
  replace hu71 := hu71.mono hG138
  replace hu76 := hu76.mono hG138
  replace hu81 := hu81.mono hG138
  replace hcu132 := hcu132.mono hG138
  replace hsp133 := hsp133.mono hG138
  replace hcu136 := hcu136.mono hG138
  replace hsp137 := hsp137.mono hG138
  refine A_moreS hs hle hG138 (List.Sublist.refl _) ?_
  refine A_take 55 rfl (by kernel_rfl) rfl hs (Y_pickT rfl rfl ?_)
  refine A_take 56 rfl (by kernel_rfl) rfl hs (Y_move rfl ?_)
  refine A_take 57 rfl (by kernel_rfl) rfl hs (Y_move rfl ?_)
  refine A_take 58 rfl (by kernel_rfl) rfl hs (Y_pickT rfl rfl ?_)
  refine A_take 59 rfl (by kernel_rfl) rfl hs (Y_assign rfl ?_)
  refine A_done (by kernel_rfl) (T_sub [(6, _)] ⟨rfl, trivial⟩ ?_)
  refine T_ret ?_
  refine Rt_fin (vs := [_]) Try.results3 rfl ⟨rfl, trivial⟩ ?_
  try dsimp only [tup]
  exact ⟨_, [], hs.done, rfl, rfl⟩

end Go.Proofs.Ytacchhkefnokdaa
