import Derived.Test.YtffbfibpfnlfeaaGreatDoorPlain2
import Derived.Test.YtffbfibpfnlfeaaGreatDoorExWalks5
import Derived.Test.YtffbfibpfnlfeaaGreatDoorProg
import Derived.Test.YtffbfibpfnlfeaaGreatDoorPlain
import Derived.Test.YtffbfibpfnlfeaaGreatDoorShelf
namespace Go.Proofs.YtffbfibpfnlfeaaGreatDoor
open Go Go.Ex Go.RowKit





set_option maxHeartbeats 1000000 in
set_option maxRecDepth 10000 in
theorem lawConcat_a {G : Ghost} {v vb vc : Value} {b cc : List UInt8} {o : OpV} (ho : OpR G v o) (_hx : -9223372036854775808 ≤ o.kind ∧ o.kind ≤ 9223372036854775807) (hol : o.old.length ≤ 10000000) (hnl : o.new.length ≤ 10000000) (hb : Bytes G vb b) (hl : b.length ≤ 10000000) (hcc : Bytes G vc cc) (hlc : cc.length ≤ 10000000) {P : OpV} (hP : madeO ⟨kind4 o.kind - 1, o.old, o.new⟩ = P) (hx : doF P b = none) (hT : Tab G) (hm : MaxL G) :
    FnOk Tryz.prog 7 [v, vb, vc] G [] fun r _ H' => H' = [] ∧ r = .bool true := by
  obtain ⟨u1, u2, rfl, ho1, ho2⟩ := ho
  obtain ⟨A1, c1, rfl, _⟩ := id ho1
  obtain ⟨A2, c2, rfl, _⟩ := id ho2
  obtain ⟨A, cap, rfl, _⟩ := id hb
  obtain ⟨A7, c7, rfl, _⟩ := id hcc
  have hPk : P.kind = kind4 o.kind := by rw [← hP]; exact made_kind4 _ _ _
  have hPv : validO P = true := by rw [← hP]; exact made_valid _
  have hk4 : P.kind = 1 ∨ P.kind = 2 ∨ P.kind = 7 ∨ P.kind = 3 := by rw [hPk]; exact kind4_in _
  have hk3 := (filter_append_do P b cc hPv hk4).1 hx
  obtain ⟨y, hy⟩ : ∃ q, doF P cc = q := ⟨_, rfl⟩
  obtain ⟨z, hz⟩ : ∃ q, doF P (b ++ cc) = q := ⟨_, rfl⟩
  refine FnOk.of_T [(0, _), (1, _), (2, _)] Tryz.func7 rfl Tryz.ntmps7 (by simp) rfl fun w0 hs => ?_
  have ho10 := ho1
  have ho20 := ho2
  have hb0 := hb
  have hcc0 := hcc
  have hT0 := hT
  have hm0 := hm
  refine T_seq (T_region rfl ?_)
  refine O_s (S_box hs rfl (cs := [_, _, _]) rfl fun b3 _ hs => ?_)
  refine O_y hs (Y_assign rfl ?_)
  refine O_nil (T_sub [(1, _), (2, _), (3, _)] ⟨rfl, rfl, rfl, trivial⟩ ?_)
  refine T_seq (T_region rfl ?_)
  refine O_s (S_call (H1 := []) hs rfl Tryz.func8 rfl (by kernel_rfl) (sanity_ok hT hm) fun v1 G' H' _ hR hG16 hs => ?_)
  obtain ⟨rfl, rfl⟩ := hR
  replace hs : St _ _ [_] _ := hs
  replace ho1 := ho1.mono hG16
  replace ho2 := ho2.mono hG16
  replace hb := hb.mono hG16
  replace hcc := hcc.mono hG16
  replace hT := hT.mono hG16
  replace hm := hm.mono hG16
  refine O_y hs (Y_assign rfl ?_)
  refine O_nil (T_sub [(1, _), (2, _), (3, _), (7, _)] ⟨rfl, rfl, rfl, rfl, trivial⟩ ?_)
  refine T_seq (T_region rfl ?_)
  refine O_s (S_lit hs Tryz.underlying54 Tryz.sizeOf3 Tryz.zeroValue3 rfl rfl (by decide) (by decide) rfl (cs := [_, _, _, _]) rfl rfl fun v2 _ hs _ => ?_)
  obtain ⟨_, hG17, hl17, hs⟩ := hs.fixRow noM
  replace ho1 := ho1.mono hG17
  replace ho2 := ho2.mono hG17
  replace hb := hb.mono hG17
  replace hcc := hcc.mono hG17
  replace hT := hT.mono hG17
  replace hm := hm.mono hG17
  refine O_y hs (Y_assign rfl ?_)
  refine O_nil (T_sub [(1, _), (2, _), (3, _), (7, _), (8, _)] ⟨rfl, rfl, rfl, rfl, rfl, trivial⟩ ?_)
  refine T_seq (T_region rfl ?_)
  refine O_y hs (Y_move rfl ?_)
  refine O_y hs (Y_fieldAddr FO24_0 rfl (m := 0) rfl ?_)
  refine O_y hs (Y_ld 0 Tryz.isAgg3 rfl rfl rfl ?_)
  refine O_y hs (Y_conv Tryz.underlying3 Tryz.underlying55 (c := (o.kind % 18446744073709551616)) rfl (by rw [IntKind.wrap_u64]) ?_)
  refine O_y hs (Y_rem (c := (o.kind % 4)) rfl rfl (by omega) (by decide) (by omega) ?_)
  refine O_y hs (Y_conv Tryz.underlying55 Tryz.underlying3 (c := (o.kind % 4)) rfl (wrap64_eq (by omega)) ?_)
  refine O_y hs (Y_idx (o.kind % 4).toNat Tryz.underlying54 Tryz.sizeOf3 hl17 rfl rfl (by omega) (by omega) fun p24 hp24 => ?_)
  refine O_y hs (Y_ldG Tryz.isAgg3 rfl (by simpa [Addr.add] using hp24 0 _ (by rw [Nat.mul_one, Nat.add_zero]; exact kind4_at o.kind)) ?_)
  refine O_y hs (Y_sub (c := (kind4 o.kind - 1)) rfl rfl (rfl) (by have := kind4_in o.kind; omega) ?_)
  refine O_y hs (Y_fieldAddr FO24_0 rfl (m := 0) rfl ?_)
  refine O_n (S_st hs Tryz.sizeOf3 rfl rfl rfl (by simp) (cs' := [_, _, _]) rfl fun _ hs => ?_)
  refine O_nil (T_sub [(1, _), (2, _), (3, _), (7, _)] ⟨rfl, rfl, rfl, rfl, trivial⟩ ?_)
  refine T_seq (T_region rfl ?_)
  refine O_y hs (Y_ldA 0 Tryz.isAgg24 Tryz.sizeOf24 rfl rfl (vs := [_, _, _]) rfl rfl ?_)
  refine O_s (S_call (H1 := []) hs rfl Tryz.func9 rfl (by kernel_rfl) (made_ok (o := ⟨kind4 o.kind - 1, o.old, o.new⟩) ⟨_, _, rfl, ho1, ho2⟩ hol hnl) fun v3 G' H' _ hR hG29 hs => ?_)
  obtain ⟨rfl, hmo⟩ := hR
  replace hs : St _ _ [_] _ := hs
  replace ho1 := ho1.mono hG29
  replace ho2 := ho2.mono hG29
  replace hb := hb.mono hG29
  replace hcc := hcc.mono hG29
  replace hT := hT.mono hG29
  replace hm := hm.mono hG29
  rw [hP] at hmo
  obtain ⟨w1, w2, hve, hp1, hp2⟩ := id hmo
  replace hve : _ = Value.agg #[.int .i64 P.kind, w1, w2] := hve
  replace hp1 : Bytes _ w1 P.old := hp1
  replace hp2 : Bytes _ w2 P.new := hp2
  subst hve
  obtain ⟨A5, c5, rfl, _⟩ := id hp1
  obtain ⟨A6, c6, rfl, _⟩ := id hp2
  refine O_s (S_alloc hs Tryz.zeroValue24 (cs := [_, _, _]) rfl fun b9 _ hs => ?_)
  refine O_n (S_stA hs Tryz.sizeOf24 rfl rfl (vs := [_, _, _]) rfl (rfl) (by simp) (cs' := [_, _, _]) rfl fun _ hs => ?_)
  refine O_nil (T_sub [(1, _), (2, _), (7, _), (9, _)] ⟨rfl, rfl, rfl, rfl, trivial⟩ ?_)
  refine T_seq (T_region rfl ?_)
  refine O_y hs (Y_ldA 0 Tryz.isAgg24 Tryz.sizeOf24 rfl rfl (vs := [_, _, _]) rfl rfl ?_)
  refine O_y hs (Y_move rfl ?_)
  refine O_s (S_call (H1 := []) hs rfl Tryz.func10 rfl (by kernel_rfl) (do_eq (o := P) none hx ⟨_, _, rfl, hp1, hp2⟩ hb (by omega) hm) fun v4 G' H' _ hR hG33 hs => ?_)
  obtain ⟨rfl, u33, rfl, hxx⟩ := hR
  replace hs : St _ _ [_, _] _ := hs
  replace ho1 := ho1.mono hG33
  replace ho2 := ho2.mono hG33
  replace hb := hb.mono hG33
  replace hcc := hcc.mono hG33
  replace hT := hT.mono hG33
  replace hm := hm.mono hG33
  replace hp1 := hp1.mono hG33
  replace hp2 := hp2.mono hG33
  refine O_y hs (Y_move rfl ?_)
  refine O_y hs (Y_extract rfl rfl ?_)
  refine O_y hs (Y_extract rfl rfl ?_)
  refine O_y hs (Y_assign rfl ?_)
  refine O_y hs (Y_assign rfl ?_)
  refine O_nil (T_sub [(1, _), (2, _), (7, _), (9, _), (10, _), (11, _)] ⟨rfl, rfl, rfl, rfl, rfl, rfl, trivial⟩ ?_)
  refine T_seq (T_region rfl ?_)
  refine O_y hs (Y_ldA 0 Tryz.isAgg24 Tryz.sizeOf24 rfl rfl (vs := [_, _, _]) rfl rfl ?_)
  refine O_y hs (Y_move rfl ?_)
  refine O_s (S_call (H1 := []) hs rfl Tryz.func10 rfl (by kernel_rfl) (do_eq (o := P) y hy ⟨_, _, rfl, hp1, hp2⟩ hcc (by omega) hm) fun v5 G' H' _ hR hG39 hs => ?_)
  obtain ⟨rfl, u39, rfl, hyy⟩ := hR
  replace hs : St _ _ [_, _] _ := hs
  replace ho1 := ho1.mono hG39
  replace ho2 := ho2.mono hG39
  replace hb := hb.mono hG39
  replace hcc := hcc.mono hG39
  replace hT := hT.mono hG39
  replace hm := hm.mono hG39
  replace hp1 := hp1.mono hG39
  replace hp2 := hp2.mono hG39
  replace hxx := hxx.mono hG39
  refine O_y hs (Y_move rfl ?_)
  refine O_y hs (Y_extract rfl rfl ?_)
  refine O_y hs (Y_extract rfl rfl ?_)
  refine O_y hs (Y_assign rfl ?_)
  refine O_y hs (Y_assign rfl ?_)
  refine O_nil (T_sub [(1, _), (2, _), (7, _), (9, _), (10, _), (11, _), (12, _), (13, _)] ⟨rfl, rfl, rfl, rfl, rfl, rfl, rfl, rfl, trivial⟩ ?_)
  refine T_seq (T_drawS [0, 1, 2, 3, 4, 5, 6, 7, 8, 9] hs (by kernel_rfl) ?_)
  replace hs := hs.drew
  refine A_take 0 rfl (by kernel_rfl) rfl hs (Y_ldA 0 Tryz.isAgg24 Tryz.sizeOf24 rfl rfl (vs := [_, _, _]) rfl rfl ?_)
  refine A_take 1 rfl (by kernel_rfl) rfl hs (Y_move rfl ?_)
  refine A_take 2 rfl (by kernel_rfl) rfl hs (Y_move rfl ?_)
  have hle := hs.le
  refine A_only 3 rfl (by kernel_rfl) rfl (S_call (H1 := []) hs rfl Tryz.func22 rfl (by kernel_rfl) (join_ok hb hcc (by omega) (by omega)) fun v6 G' H' _ hR hG46 hs => ?_)
  obtain ⟨rfl, hj⟩ := hR
  replace hs : St _ _ [_, _] _ := hs
  replace ho1 := ho1.mono hG46
  replace ho2 := ho2.mono hG46
  replace hb := hb.mono hG46
  replace hcc := hcc.mono hG46
  replace hT := hT.mono hG46
  replace hm := hm.mono hG46
  replace hp1 := hp1.mono hG46
  replace hp2 := hp2.mono hG46
  replace hxx := hxx.mono hG46
  replace hyy := hyy.mono hG46
  refine A_moreS hs hle hG46 (List.Sublist.refl _) ?_
  have hle := hs.le
  refine A_only 4 rfl (by kernel_rfl) rfl (S_call (H1 := []) hs rfl Tryz.func10 rfl (by kernel_rfl) (do_eq (o := P) z hz ⟨_, _, rfl, hp1, hp2⟩ hj (by rw [List.length_append]; omega) hm) fun v7 G' H' _ hR hG47 hs => ?_)
  obtain ⟨rfl, u47, rfl, hzz⟩ := hR
  replace hs : St _ _ [_, _] _ := hs
  replace ho1 := ho1.mono hG47
  replace ho2 := ho2.mono hG47
  replace hb := hb.mono hG47
  replace hcc := hcc.mono hG47
  replace hT := hT.mono hG47
  replace hm := hm.mono hG47
  replace hp1 := hp1.mono hG47
  replace hp2 := hp2.mono hG47
  replace hxx := hxx.mono hG47
  replace hyy := hyy.mono hG47
  replace hj := hj.mono hG47
  refine A_moreS hs hle hG47 (List.Sublist.refl _) ?_
  refine A_take 5 rfl (by kernel_rfl) rfl hs (Y_move rfl ?_)
  refine A_take 6 rfl (by kernel_rfl) rfl hs (Y_extract rfl rfl ?_)
  refine A_take 7 rfl (by kernel_rfl) rfl hs (Y_extract rfl rfl ?_)
  refine A_take 8 rfl (by kernel_rfl) rfl hs (Y_assign rfl ?_)
  refine A_take 9 rfl (by kernel_rfl) rfl hs (Y_assign rfl ?_)
  refine A_done (by kernel_rfl) (T_sub [(7, _), (9, _), (10, _), (11, _), (12, _), (13, _), (14, _), (15, _)] ⟨rfl, rfl, rfl, rfl, rfl, rfl, rfl, rfl, trivial⟩ ?_)
  refine T_seq (T_seq (T_region rfl ?_))
  refine O_y hs (Y_move rfl ?_)
  refine O_y hs (Y_not rfl ?_)
  refine O_y hs (Y_move rfl ?_)
  refine O_no 52 rfl rfl ?_
  refine O_no 52 rfl rfl ?_
  refine O_y hs (Y_pickT rfl rfl ?_)
  refine O_nil (T_sub [(7, _), (9, _), (10, _), (12, _), (14, _), (15, _), (55, _)] ⟨rfl, rfl, rfl, rfl, rfl, rfl, rfl, trivial⟩ ?_)
  refine T_condT rfl (T_seq (T_region rfl ?_))
  refine O_y hs (Y_move rfl ?_)
  refine O_y hs (Y_move rfl ?_)
  refine O_yy 57 hs rfl rfl (Y_fieldAddr FO24_0 rfl (m := 0) rfl ?_)
  refine O_yy 57 hs rfl rfl (Y_ld 0 Tryz.isAgg3 rfl rfl rfl ?_)
  refine O_yy 57 hs rfl rfl (Y_cmpT rfl rfl rfl (by simp only [cmpP]; exact hk3) ?_)
  refine O_y hs (Y_pickT rfl rfl ?_)
  refine O_y hs (Y_assign rfl ?_)
  refine O_nil (T_sub [(6, _)] ⟨rfl, trivial⟩ ?_)
  refine T_ret ?_
  refine Rt_fin (vs := [_]) Tryz.results7 rfl ⟨rfl, trivial⟩ ?_
  try dsimp only [tup]
  exact ⟨_, [], hs.done, rfl, rfl⟩

set_option maxHeartbeats 1000000 in
set_option maxRecDepth 10000 in
theorem lawConcat_b {G : Ghost} {v vb vc : Value} {b cc : List UInt8} {o : OpV} (ho : OpR G v o) (_hx : -9223372036854775808 ≤ o.kind ∧ o.kind ≤ 9223372036854775807) (hol : o.old.length ≤ 10000000) (hnl : o.new.length ≤ 10000000) (hb : Bytes G vb b) (hl : b.length ≤ 10000000) (hcc : Bytes G vc cc) (hlc : cc.length ≤ 10000000) {P : OpV} (hP : madeO ⟨kind4 o.kind - 1, o.old, o.new⟩ = P) {x : List UInt8} (hx : doF P b = some x) (hy : doF P cc = none) (hT : Tab G) (hm : MaxL G) :
    FnOk Tryz.prog 7 [v, vb, vc] G [] fun r _ H' => H' = [] ∧ r = .bool true := by
  obtain ⟨u1, u2, rfl, ho1, ho2⟩ := ho
  obtain ⟨A1, c1, rfl, _⟩ := id ho1
  obtain ⟨A2, c2, rfl, _⟩ := id ho2
  obtain ⟨A, cap, rfl, _⟩ := id hb
  obtain ⟨A7, c7, rfl, _⟩ := id hcc
  have hPk : P.kind = kind4 o.kind := by rw [← hP]; exact made_kind4 _ _ _
  have hPv : validO P = true := by rw [← hP]; exact made_valid _
  have hk4 : P.kind = 1 ∨ P.kind = 2 ∨ P.kind = 7 ∨ P.kind = 3 := by rw [hPk]; exact kind4_in _
  have hk3 := (filter_append_do P cc b hPv hk4).1 hy
  obtain ⟨z, hz⟩ : ∃ q, doF P (b ++ cc) = q := ⟨_, rfl⟩
  refine FnOk.of_T [(0, _), (1, _), (2, _)] Tryz.func7 rfl Tryz.ntmps7 (by simp) rfl fun w0 hs => ?_
  have ho10 := ho1
  have ho20 := ho2
  have hb0 := hb
  have hcc0 := hcc
  have hT0 := hT
  have hm0 := hm
  refine T_seq (T_region rfl ?_)
  refine O_s (S_box hs rfl (cs := [_, _, _]) rfl fun b3 _ hs => ?_)
  refine O_y hs (Y_assign rfl ?_)
  refine O_nil (T_sub [(1, _), (2, _), (3, _)] ⟨rfl, rfl, rfl, trivial⟩ ?_)
  refine T_seq (T_region rfl ?_)
  refine O_s (S_call (H1 := []) hs rfl Tryz.func8 rfl (by kernel_rfl) (sanity_ok hT hm) fun v1 G' H' _ hR hG16 hs => ?_)
  obtain ⟨rfl, rfl⟩ := hR
  replace hs : St _ _ [_] _ := hs
  replace ho1 := ho1.mono hG16
  replace ho2 := ho2.mono hG16
  replace hb := hb.mono hG16
  replace hcc := hcc.mono hG16
  replace hT := hT.mono hG16
  replace hm := hm.mono hG16
  refine O_y hs (Y_assign rfl ?_)
  refine O_nil (T_sub [(1, _), (2, _), (3, _), (7, _)] ⟨rfl, rfl, rfl, rfl, trivial⟩ ?_)
  refine T_seq (T_region rfl ?_)
  refine O_s (S_lit hs Tryz.underlying54 Tryz.sizeOf3 Tryz.zeroValue3 rfl rfl (by decide) (by decide) rfl (cs := [_, _, _, _]) rfl rfl fun v2 _ hs _ => ?_)
  obtain ⟨_, hG17, hl17, hs⟩ := hs.fixRow noM
  replace ho1 := ho1.mono hG17
  replace ho2 := ho2.mono hG17
  replace hb := hb.mono hG17
  replace hcc := hcc.mono hG17
  replace hT := hT.mono hG17
  replace hm := hm.mono hG17
  refine O_y hs (Y_assign rfl ?_)
  refine O_nil (T_sub [(1, _), (2, _), (3, _), (7, _), (8, _)] ⟨rfl, rfl, rfl, rfl, rfl, trivial⟩ ?_)
  refine T_seq (T_region rfl ?_)
  refine O_y hs (Y_move rfl ?_)
  refine O_y hs (Y_fieldAddr FO24_0 rfl (m := 0) rfl ?_)
  refine O_y hs (Y_ld 0 Tryz.isAgg3 rfl rfl rfl ?_)
  refine O_y hs (Y_conv Tryz.underlying3 Tryz.underlying55 (c := (o.kind % 18446744073709551616)) rfl (by rw [IntKind.wrap_u64]) ?_)
  refine O_y hs (Y_rem (c := (o.kind % 4)) rfl rfl (by omega) (by decide) (by omega) ?_)
  refine O_y hs (Y_conv Tryz.underlying55 Tryz.underlying3 (c := (o.kind % 4)) rfl (wrap64_eq (by omega)) ?_)
  refine O_y hs (Y_idx (o.kind % 4).toNat Tryz.underlying54 Tryz.sizeOf3 hl17 rfl rfl (by omega) (by omega) fun p24 hp24 => ?_)
  refine O_y hs (Y_ldG Tryz.isAgg3 rfl (by simpa [Addr.add] using hp24 0 _ (by rw [Nat.mul_one, Nat.add_zero]; exact kind4_at o.kind)) ?_)
  refine O_y hs (Y_sub (c := (kind4 o.kind - 1)) rfl rfl (rfl) (by have := kind4_in o.kind; omega) ?_)
  refine O_y hs (Y_fieldAddr FO24_0 rfl (m := 0) rfl ?_)
  refine O_n (S_st hs Tryz.sizeOf3 rfl rfl rfl (by simp) (cs' := [_, _, _]) rfl fun _ hs => ?_)
  refine O_nil (T_sub [(1, _), (2, _), (3, _), (7, _)] ⟨rfl, rfl, rfl, rfl, trivial⟩ ?_)
  refine T_seq (T_region rfl ?_)
  refine O_y hs (Y_ldA 0 Tryz.isAgg24 Tryz.sizeOf24 rfl rfl (vs := [_, _, _]) rfl rfl ?_)
  refine O_s (S_call (H1 := []) hs rfl Tryz.func9 rfl (by kernel_rfl) (made_ok (o := ⟨kind4 o.kind - 1, o.old, o.new⟩) ⟨_, _, rfl, ho1, ho2⟩ hol hnl) fun v3 G' H' _ hR hG29 hs => ?_)
  obtain ⟨rfl, hmo⟩ := hR
  replace hs : St _ _ [_] _ := hs
  replace ho1 := ho1.mono hG29
  replace ho2 := ho2.mono hG29
  replace hb := hb.mono hG29
  replace hcc := hcc.mono hG29
  replace hT := hT.mono hG29
  replace hm := hm.mono hG29
  rw [hP] at hmo
  obtain ⟨w1, w2, hve, hp1, hp2⟩ := id hmo
  replace hve : _ = Value.agg #[.int .i64 P.kind, w1, w2] := hve
  replace hp1 : Bytes _ w1 P.old := hp1
  replace hp2 : Bytes _ w2 P.new := hp2
  subst hve
  obtain ⟨A5, c5, rfl, _⟩ := id hp1
  obtain ⟨A6, c6, rfl, _⟩ := id hp2
  refine O_s (S_alloc hs Tryz.zeroValue24 (cs := [_, _, _]) rfl fun b9 _ hs => ?_)
  refine O_n (S_stA hs Tryz.sizeOf24 rfl rfl (vs := [_, _, _]) rfl (rfl) (by simp) (cs' := [_, _, _]) rfl fun _ hs => ?_)
  refine O_nil (T_sub [(1, _), (2, _), (7, _), (9, _)] ⟨rfl, rfl, rfl, rfl, trivial⟩ ?_)
  refine T_seq (T_region rfl ?_)
  refine O_y hs (Y_ldA 0 Tryz.isAgg24 Tryz.sizeOf24 rfl rfl (vs := [_, _, _]) rfl rfl ?_)
  refine O_y hs (Y_move rfl ?_)
  refine O_s (S_call (H1 := []) hs rfl Tryz.func10 rfl (by kernel_rfl) (do_eq (o := P) (some x) hx ⟨_, _, rfl, hp1, hp2⟩ hb (by omega) hm) fun v4 G' H' _ hR hG33 hs => ?_)
  obtain ⟨rfl, u33, rfl, hxx⟩ := hR
  replace hs : St _ _ [_, _] _ := hs
  replace ho1 := ho1.mono hG33
  replace ho2 := ho2.mono hG33
  replace hb := hb.mono hG33
  replace hcc := hcc.mono hG33
  replace hT := hT.mono hG33
  replace hm := hm.mono hG33
  replace hp1 := hp1.mono hG33
  replace hp2 := hp2.mono hG33
  replace hxx : Bytes _ _ x := hxx
  refine O_y hs (Y_move rfl ?_)
  refine O_y hs (Y_extract rfl rfl ?_)
  refine O_y hs (Y_extract rfl rfl ?_)
  refine O_y hs (Y_assign rfl ?_)
  refine O_y hs (Y_assign rfl ?_)
  refine O_nil (T_sub [(1, _), (2, _), (7, _), (9, _), (10, _), (11, _)] ⟨rfl, rfl, rfl, rfl, rfl, rfl, trivial⟩ ?_)
  refine T_seq (T_region rfl ?_)
  refine O_y hs (Y_ldA 0 Tryz.isAgg24 Tryz.sizeOf24 rfl rfl (vs := [_, _, _]) rfl rfl ?_)
  refine O_y hs (Y_move rfl ?_)
  refine O_s (S_call (H1 := []) hs rfl Tryz.func10 rfl (by kernel_rfl) (do_eq (o := P) none hy ⟨_, _, rfl, hp1, hp2⟩ hcc (by omega) hm) fun v5 G' H' _ hR hG39 hs => ?_)
  obtain ⟨rfl, u39, rfl, hyy⟩ := hR
  replace hs : St _ _ [_, _] _ := hs
  replace ho1 := ho1.mono hG39
  replace ho2 := ho2.mono hG39
  replace hb := hb.mono hG39
  replace hcc := hcc.mono hG39
  replace hT := hT.mono hG39
  replace hm := hm.mono hG39
  replace hp1 := hp1.mono hG39
  replace hp2 := hp2.mono hG39
  replace hxx := hxx.mono hG39
  refine O_y hs (Y_move rfl ?_)
  refine O_y hs (Y_extract rfl rfl ?_)
  refine O_y hs (Y_extract rfl rfl ?_)
  refine O_y hs (Y_assign rfl ?_)
  refine O_y hs (Y_assign rfl ?_)
  refine O_nil (T_sub [(1, _), (2, _), (7, _), (9, _), (10, _), (11, _), (12, _), (13, _)] ⟨rfl, rfl, rfl, rfl, rfl, rfl, rfl, rfl, trivial⟩ ?_)
  refine T_seq (T_drawS [0, 1, 2, 3, 4, 5, 6, 7, 8, 9] hs (by kernel_rfl) ?_)
  replace hs := hs.drew
  refine A_take 0 rfl (by kernel_rfl) rfl hs (Y_ldA 0 Tryz.isAgg24 Tryz.sizeOf24 rfl rfl (vs := [_, _, _]) rfl rfl ?_)
  refine A_take 1 rfl (by kernel_rfl) rfl hs (Y_move rfl ?_)
  refine A_take 2 rfl (by kernel_rfl) rfl hs (Y_move rfl ?_)
  have hle := hs.le
  refine A_only 3 rfl (by kernel_rfl) rfl (S_call (H1 := []) hs rfl Tryz.func22 rfl (by kernel_rfl) (join_ok hb hcc (by omega) (by omega)) fun v6 G' H' _ hR hG46 hs => ?_)
  obtain ⟨rfl, hj⟩ := hR
  replace hs : St _ _ [_, _] _ := hs
  replace ho1 := ho1.mono hG46
  replace ho2 := ho2.mono hG46
  replace hb := hb.mono hG46
  replace hcc := hcc.mono hG46
  replace hT := hT.mono hG46
  replace hm := hm.mono hG46
  replace hp1 := hp1.mono hG46
  replace hp2 := hp2.mono hG46
  replace hxx := hxx.mono hG46
  replace hyy := hyy.mono hG46
  refine A_moreS hs hle hG46 (List.Sublist.refl _) ?_
  have hle := hs.le
  refine A_only 4 rfl (by kernel_rfl) rfl (S_call (H1 := []) hs rfl Tryz.func10 rfl (by kernel_rfl) (do_eq (o := P) z hz ⟨_, _, rfl, hp1, hp2⟩ hj (by rw [List.length_append]; omega) hm) fun v7 G' H' _ hR hG47 hs => ?_)
  obtain ⟨rfl, u47, rfl, hzz⟩ := hR
  replace hs : St _ _ [_, _] _ := hs
  replace ho1 := ho1.mono hG47
  replace ho2 := ho2.mono hG47
  replace hb := hb.mono hG47
  replace hcc := hcc.mono hG47
  replace hT := hT.mono hG47
  replace hm := hm.mono hG47
  replace hp1 := hp1.mono hG47
  replace hp2 := hp2.mono hG47
  replace hxx := hxx.mono hG47
  replace hyy := hyy.mono hG47
  replace hj := hj.mono hG47
  refine A_moreS hs hle hG47 (List.Sublist.refl _) ?_
  refine A_take 5 rfl (by kernel_rfl) rfl hs (Y_move rfl ?_)
  refine A_take 6 rfl (by kernel_rfl) rfl hs (Y_extract rfl rfl ?_)
  refine A_take 7 rfl (by kernel_rfl) rfl hs (Y_extract rfl rfl ?_)
  refine A_take 8 rfl (by kernel_rfl) rfl hs (Y_assign rfl ?_)
  refine A_take 9 rfl (by kernel_rfl) rfl hs (Y_assign rfl ?_)
  refine A_done (by kernel_rfl) (T_sub [(7, _), (9, _), (10, _), (11, _), (12, _), (13, _), (14, _), (15, _)] ⟨rfl, rfl, rfl, rfl, rfl, rfl, rfl, rfl, trivial⟩ ?_)
  refine T_seq (T_seq (T_region rfl ?_))
  refine O_y hs (Y_move rfl ?_)
  refine O_y hs (Y_not rfl ?_)
  refine O_y hs (Y_move rfl ?_)
  refine O_yy 52 hs rfl rfl (Y_move rfl ?_)
  refine O_yy 52 hs rfl rfl (Y_not rfl ?_)
  refine O_y hs (Y_pickF rfl rfl ?_)
  refine O_nil (T_sub [(7, _), (9, _), (10, _), (12, _), (14, _), (15, _), (55, _)] ⟨rfl, rfl, rfl, rfl, rfl, rfl, rfl, trivial⟩ ?_)
  refine T_condT rfl (T_seq (T_region rfl ?_))
  refine O_y hs (Y_move rfl ?_)
  refine O_y hs (Y_move rfl ?_)
  refine O_yy 57 hs rfl rfl (Y_fieldAddr FO24_0 rfl (m := 0) rfl ?_)
  refine O_yy 57 hs rfl rfl (Y_ld 0 Tryz.isAgg3 rfl rfl rfl ?_)
  refine O_yy 57 hs rfl rfl (Y_cmpT rfl rfl rfl (by simp only [cmpP]; exact hk3) ?_)
  refine O_y hs (Y_pickT rfl rfl ?_)
  refine O_y hs (Y_assign rfl ?_)
  refine O_nil (T_sub [(6, _)] ⟨rfl, trivial⟩ ?_)
  refine T_ret ?_
  refine Rt_fin (vs := [_]) Tryz.results7 rfl ⟨rfl, trivial⟩ ?_
  try dsimp only [tup]
  exact ⟨_, [], hs.done, rfl, rfl⟩

set_option maxHeartbeats 1000000 in
set_option maxRecDepth 10000 in
theorem lawConcat_c {G : Ghost} {v vb vc : Value} {b cc : List UInt8} {o : OpV} (ho : OpR G v o) (_hx : -9223372036854775808 ≤ o.kind ∧ o.kind ≤ 9223372036854775807) (hol : o.old.length ≤ 10000000) (hnl : o.new.length ≤ 10000000) (hb : Bytes G vb b) (hl : b.length ≤ 10000000) (hcc : Bytes G vc cc) (hlc : cc.length ≤ 10000000) {P : OpV} (hP : madeO ⟨kind4 o.kind - 1, o.old, o.new⟩ = P) {x y : List UInt8} (hx : doF P b = some x) (hy : doF P cc = some y) (hT : Tab G) (hm : MaxL G) :
    FnOk Tryz.prog 7 [v, vb, vc] G [] fun r _ H' => H' = [] ∧ r = .bool true := by
  obtain ⟨u1, u2, rfl, ho1, ho2⟩ := ho
  obtain ⟨A1, c1, rfl, _⟩ := id ho1
  obtain ⟨A2, c2, rfl, _⟩ := id ho2
  obtain ⟨A, cap, rfl, _⟩ := id hb
  obtain ⟨A7, c7, rfl, _⟩ := id hcc
  have hPk : P.kind = kind4 o.kind := by rw [← hP]; exact made_kind4 _ _ _
  have hPv : validO P = true := by rw [← hP]; exact made_valid _
  have hk4 : P.kind = 1 ∨ P.kind = 2 ∨ P.kind = 7 ∨ P.kind = 3 := by rw [hPk]; exact kind4_in _
  have hz := (filter_append_do P b cc hPv hk4).2 x y hx hy
  have hxl := do_len4 hPv hk4 hx
  have hyl := do_len4 hPv hk4 hy
  refine FnOk.of_T [(0, _), (1, _), (2, _)] Tryz.func7 rfl Tryz.ntmps7 (by simp) rfl fun w0 hs => ?_
  have ho10 := ho1
  have ho20 := ho2
  have hb0 := hb
  have hcc0 := hcc
  have hT0 := hT
  have hm0 := hm
  refine T_seq (T_region rfl ?_)
  refine O_s (S_box hs rfl (cs := [_, _, _]) rfl fun b3 _ hs => ?_)
  refine O_y hs (Y_assign rfl ?_)
  refine O_nil (T_sub [(1, _), (2, _), (3, _)] ⟨rfl, rfl, rfl, trivial⟩ ?_)
  refine T_seq (T_region rfl ?_)
  refine O_s (S_call (H1 := []) hs rfl Tryz.func8 rfl (by kernel_rfl) (sanity_ok hT hm) fun v1 G' H' _ hR hG16 hs => ?_)
  obtain ⟨rfl, rfl⟩ := hR
  replace hs : St _ _ [_] _ := hs
  replace ho1 := ho1.mono hG16
  replace ho2 := ho2.mono hG16
  replace hb := hb.mono hG16
  replace hcc := hcc.mono hG16
  replace hT := hT.mono hG16
  replace hm := hm.mono hG16
  refine O_y hs (Y_assign rfl ?_)
  refine O_nil (T_sub [(1, _), (2, _), (3, _), (7, _)] ⟨rfl, rfl, rfl, rfl, trivial⟩ ?_)
  refine T_seq (T_region rfl ?_)
  refine O_s (S_lit hs Tryz.underlying54 Tryz.sizeOf3 Tryz.zeroValue3 rfl rfl (by decide) (by decide) rfl (cs := [_, _, _, _]) rfl rfl fun v2 _ hs _ => ?_)
  obtain ⟨_, hG17, hl17, hs⟩ := hs.fixRow noM
  replace ho1 := ho1.mono hG17
  replace ho2 := ho2.mono hG17
  replace hb := hb.mono hG17
  replace hcc := hcc.mono hG17
  replace hT := hT.mono hG17
  replace hm := hm.mono hG17
  refine O_y hs (Y_assign rfl ?_)
  refine O_nil (T_sub [(1, _), (2, _), (3, _), (7, _), (8, _)] ⟨rfl, rfl, rfl, rfl, rfl, trivial⟩ ?_)
  refine T_seq (T_region rfl ?_)
  refine O_y hs (Y_move rfl ?_)
  refine O_y hs (Y_fieldAddr FO24_0 rfl (m := 0) rfl ?_)
  refine O_y hs (Y_ld 0 Tryz.isAgg3 rfl rfl rfl ?_)
  refine O_y hs (Y_conv Tryz.underlying3 Tryz.underlying55 (c := (o.kind % 18446744073709551616)) rfl (by rw [IntKind.wrap_u64]) ?_)
  refine O_y hs (Y_rem (c := (o.kind % 4)) rfl rfl (by omega) (by decide) (by omega) ?_)
  refine O_y hs (Y_conv Tryz.underlying55 Tryz.underlying3 (c := (o.kind % 4)) rfl (wrap64_eq (by omega)) ?_)
  refine O_y hs (Y_idx (o.kind % 4).toNat Tryz.underlying54 Tryz.sizeOf3 hl17 rfl rfl (by omega) (by omega) fun p24 hp24 => ?_)
  refine O_y hs (Y_ldG Tryz.isAgg3 rfl (by simpa [Addr.add] using hp24 0 _ (by rw [Nat.mul_one, Nat.add_zero]; exact kind4_at o.kind)) ?_)
  refine O_y hs (Y_sub (c := (kind4 o.kind - 1)) rfl rfl (rfl) (by have := kind4_in o.kind; omega) ?_)
  refine O_y hs (Y_fieldAddr FO24_0 rfl (m := 0) rfl ?_)
  refine O_n (S_st hs Tryz.sizeOf3 rfl rfl rfl (by simp) (cs' := [_, _, _]) rfl fun _ hs => ?_)
  refine O_nil (T_sub [(1, _), (2, _), (3, _), (7, _)] ⟨rfl, rfl, rfl, rfl, trivial⟩ ?_)
  refine T_seq (T_region rfl ?_)
  refine O_y hs (Y_ldA 0 Tryz.isAgg24 Tryz.sizeOf24 rfl rfl (vs := [_, _, _]) rfl rfl ?_)
  refine O_s (S_call (H1 := []) hs rfl Tryz.func9 rfl (by kernel_rfl) (made_ok (o := ⟨kind4 o.kind - 1, o.old, o.new⟩) ⟨_, _, rfl, ho1, ho2⟩ hol hnl) fun v3 G' H' _ hR hG29 hs => ?_)
  obtain ⟨rfl, hmo⟩ := hR
  replace hs : St _ _ [_] _ := hs
  replace ho1 := ho1.mono hG29
  replace ho2 := ho2.mono hG29
  replace hb := hb.mono hG29
  replace hcc := hcc.mono hG29
  replace hT := hT.mono hG29
  replace hm := hm.mono hG29
  rw [hP] at hmo
  obtain ⟨w1, w2, hve, hp1, hp2⟩ := id hmo
  replace hve : _ = Value.agg #[.int .i64 P.kind, w1, w2] := hve
  replace hp1 : Bytes _ w1 P.old := hp1
  replace hp2 : Bytes _ w2 P.new := hp2
  subst hve
  obtain ⟨A5, c5, rfl, _⟩ := id hp1
  obtain ⟨A6, c6, rfl, _⟩ := id hp2
  refine O_s (S_alloc hs Tryz.zeroValue24 (cs := [_, _, _]) rfl fun b9 _ hs => ?_)
  refine O_n (S_stA hs Tryz.sizeOf24 rfl rfl (vs := [_, _, _]) rfl (rfl) (by simp) (cs' := [_, _, _]) rfl fun _ hs => ?_)
  refine O_nil (T_sub [(1, _), (2, _), (7, _), (9, _)] ⟨rfl, rfl, rfl, rfl, trivial⟩ ?_)
  refine T_seq (T_region rfl ?_)
  refine O_y hs (Y_ldA 0 Tryz.isAgg24 Tryz.sizeOf24 rfl rfl (vs := [_, _, _]) rfl rfl ?_)
  refine O_y hs (Y_move rfl ?_)
  refine O_s (S_call (H1 := []) hs rfl Tryz.func10 rfl (by kernel_rfl) (do_eq (o := P) (some x) hx ⟨_, _, rfl, hp1, hp2⟩ hb (by omega) hm) fun v4 G' H' _ hR hG33 hs => ?_)
  obtain ⟨rfl, u33, rfl, hxx⟩ := hR
  replace hs : St _ _ [_, _] _ := hs
  replace ho1 := ho1.mono hG33
  replace ho2 := ho2.mono hG33
  replace hb := hb.mono hG33
  replace hcc := hcc.mono hG33
  replace hT := hT.mono hG33
  replace hm := hm.mono hG33
  replace hp1 := hp1.mono hG33
  replace hp2 := hp2.mono hG33
  replace hxx : Bytes _ _ x := hxx
  refine O_y hs (Y_move rfl ?_)
  refine O_y hs (Y_extract rfl rfl ?_)
  refine O_y hs (Y_extract rfl rfl ?_)
  refine O_y hs (Y_assign rfl ?_)
  refine O_y hs (Y_assign rfl ?_)
  refine O_nil (T_sub [(1, _), (2, _), (7, _), (9, _), (10, _), (11, _)] ⟨rfl, rfl, rfl, rfl, rfl, rfl, trivial⟩ ?_)
  refine T_seq (T_region rfl ?_)
  refine O_y hs (Y_ldA 0 Tryz.isAgg24 Tryz.sizeOf24 rfl rfl (vs := [_, _, _]) rfl rfl ?_)
  refine O_y hs (Y_move rfl ?_)
  refine O_s (S_call (H1 := []) hs rfl Tryz.func10 rfl (by kernel_rfl) (do_eq (o := P) (some y) hy ⟨_, _, rfl, hp1, hp2⟩ hcc (by omega) hm) fun v5 G' H' _ hR hG39 hs => ?_)
  obtain ⟨rfl, u39, rfl, hyy⟩ := hR
  replace hs : St _ _ [_, _] _ := hs
  replace ho1 := ho1.mono hG39
  replace ho2 := ho2.mono hG39
  replace hb := hb.mono hG39
  replace hcc := hcc.mono hG39
  replace hT := hT.mono hG39
  replace hm := hm.mono hG39
  replace hp1 := hp1.mono hG39
  replace hp2 := hp2.mono hG39
  replace hxx := hxx.mono hG39
  replace hyy : Bytes _ _ y := hyy
  refine O_y hs (Y_move rfl ?_)
  refine O_y hs (Y_extract rfl rfl ?_)
  refine O_y hs (Y_extract rfl rfl ?_)
  refine O_y hs (Y_assign rfl ?_)
  refine O_y hs (Y_assign rfl ?_)
  refine O_nil (T_sub [(1, _), (2, _), (7, _), (9, _), (10, _), (11, _), (12, _), (13, _)] ⟨rfl, rfl, rfl, rfl, rfl, rfl, rfl, rfl, trivial⟩ ?_)
  refine T_seq (T_drawS [0, 1, 2, 3, 4, 5, 6, 7, 8, 9] hs (by kernel_rfl) ?_)
  replace hs := hs.drew
  refine A_take 0 rfl (by kernel_rfl) rfl hs (Y_ldA 0 Tryz.isAgg24 Tryz.sizeOf24 rfl rfl (vs := [_, _, _]) rfl rfl ?_)
  refine A_take 1 rfl (by kernel_rfl) rfl hs (Y_move rfl ?_)
  refine A_take 2 rfl (by kernel_rfl) rfl hs (Y_move rfl ?_)
  have hle := hs.le
  refine A_only 3 rfl (by kernel_rfl) rfl (S_call (H1 := []) hs rfl Tryz.func22 rfl (by kernel_rfl) (join_ok hb hcc (by omega) (by omega)) fun v6 G' H' _ hR hG46 hs => ?_)
  obtain ⟨rfl, hj⟩ := hR
  replace hs : St _ _ [_, _] _ := hs
  replace ho1 := ho1.mono hG46
  replace ho2 := ho2.mono hG46
  replace hb := hb.mono hG46
  replace hcc := hcc.mono hG46
  replace hT := hT.mono hG46
  replace hm := hm.mono hG46
  replace hp1 := hp1.mono hG46
  replace hp2 := hp2.mono hG46
  replace hxx := hxx.mono hG46
  replace hyy := hyy.mono hG46
  refine A_moreS hs hle hG46 (List.Sublist.refl _) ?_
  have hle := hs.le
  refine A_only 4 rfl (by kernel_rfl) rfl (S_call (H1 := []) hs rfl Tryz.func10 rfl (by kernel_rfl) (do_eq (o := P) (some (x ++ y)) hz ⟨_, _, rfl, hp1, hp2⟩ hj (by rw [List.length_append]; omega) hm) fun v7 G' H' _ hR hG47 hs => ?_)
  obtain ⟨rfl, u47, rfl, hzz⟩ := hR
  replace hs : St _ _ [_, _] _ := hs
  replace ho1 := ho1.mono hG47
  replace ho2 := ho2.mono hG47
  replace hb := hb.mono hG47
  replace hcc := hcc.mono hG47
  replace hT := hT.mono hG47
  replace hm := hm.mono hG47
  replace hp1 := hp1.mono hG47
  replace hp2 := hp2.mono hG47
  replace hxx := hxx.mono hG47
  replace hyy := hyy.mono hG47
  replace hj := hj.mono hG47
  replace hzz : Bytes _ _ (x ++ y) := hzz
  refine A_moreS hs hle hG47 (List.Sublist.refl _) ?_
  refine A_take 5 rfl (by kernel_rfl) rfl hs (Y_move rfl ?_)
  refine A_take 6 rfl (by kernel_rfl) rfl hs (Y_extract rfl rfl ?_)
  refine A_take 7 rfl (by kernel_rfl) rfl hs (Y_extract rfl rfl ?_)
  refine A_take 8 rfl (by kernel_rfl) rfl hs (Y_assign rfl ?_)
  refine A_take 9 rfl (by kernel_rfl) rfl hs (Y_assign rfl ?_)
  refine A_done (by kernel_rfl) (T_sub [(7, _), (9, _), (10, _), (11, _), (12, _), (13, _), (14, _), (15, _)] ⟨rfl, rfl, rfl, rfl, rfl, rfl, rfl, rfl, trivial⟩ ?_)
  refine T_seq (T_seq (T_region rfl ?_))
  refine O_y hs (Y_move rfl ?_)
  refine O_y hs (Y_not rfl ?_)
  refine O_y hs (Y_move rfl ?_)
  refine O_yy 52 hs rfl rfl (Y_move rfl ?_)
  refine O_yy 52 hs rfl rfl (Y_not rfl ?_)
  refine O_y hs (Y_pickF rfl rfl ?_)
  refine O_nil (T_sub [(7, _), (9, _), (10, _), (12, _), (14, _), (15, _), (55, _)] ⟨rfl, rfl, rfl, rfl, rfl, rfl, rfl, trivial⟩ ?_)
  refine T_condF rfl (T_skip ?_)
  refine T_seq (T_region rfl ?_)
  refine O_y hs (Y_move rfl ?_)
  refine O_y hs (Y_move rfl ?_)
  refine O_yy 63 hs rfl rfl (Y_move rfl ?_)
  refine O_y hs (Y_pickT rfl rfl ?_)
  refine O_y hs (Y_move rfl ?_)
  refine O_yy 66 hs rfl rfl (Y_move rfl ?_)
  refine O_yy 66 hs rfl rfl (Y_move rfl ?_)
  refine O_yy 66 hs rfl rfl (Y_move rfl ?_)
  refine O_yes 66 rfl rfl (S_call (H1 := []) hs rfl Tryz.func22 rfl (by kernel_rfl) (join_ok (a := x) (b := y) hxx hyy (by omega) (by omega)) fun v8 G' H' _ hR hG70 hs => ?_)
  obtain ⟨rfl, hj2⟩ := hR
  replace hs : St _ _ [_, _] _ := hs
  replace ho1 := ho1.mono hG70
  replace ho2 := ho2.mono hG70
  replace hb := hb.mono hG70
  replace hcc := hcc.mono hG70
  replace hT := hT.mono hG70
  replace hm := hm.mono hG70
  replace hp1 := hp1.mono hG70
  replace hp2 := hp2.mono hG70
  replace hxx := hxx.mono hG70
  replace hyy := hyy.mono hG70
  replace hj := hj.mono hG70
  replace hzz := hzz.mono hG70
  refine O_yes 66 rfl rfl (S_call (H1 := []) hs rfl Tryz.func14 rfl (by kernel_rfl) (same_ok hzz hj2) fun v9 G' H' _ hR hG71 hs => ?_)
  obtain ⟨rfl, rfl⟩ := hR
  replace hs : St _ _ [_, _] _ := hs
  replace ho1 := ho1.mono hG71
  replace ho2 := ho2.mono hG71
  replace hb := hb.mono hG71
  replace hcc := hcc.mono hG71
  replace hT := hT.mono hG71
  replace hm := hm.mono hG71
  replace hp1 := hp1.mono hG71
  replace hp2 := hp2.mono hG71
  replace hxx := hxx.mono hG71
  replace hyy := hyy.mono hG71
  replace hj := hj.mono hG71
  replace hzz := hzz.mono hG71
  replace hj2 := hj2.mono hG71
  rw [decide_eq_true (show _ = _ from rfl)]
  refine O_y hs (Y_pickT rfl rfl ?_)
  refine O_y hs (Y_assign rfl ?_)
  refine O_nil (T_sub [(6, _)] ⟨rfl, trivial⟩ ?_)
  refine T_ret ?_
  refine Rt_fin (vs := [_]) Tryz.results7 rfl ⟨rfl, trivial⟩ ?_
  try dsimp only [tup]
  exact ⟨_, [], hs.done, rfl, rfl⟩

theorem lawConcat {G : Ghost} {v vb vc : Value} {b cc : List UInt8} {o : OpV} (ho : OpR G v o) (_hx : -9223372036854775808 ≤ o.kind ∧ o.kind ≤ 9223372036854775807) (hol : o.old.length ≤ 10000000) (hnl : o.new.length ≤ 10000000) (hb : Bytes G vb b) (hl : b.length ≤ 10000000) (hcc : Bytes G vc cc) (hlc : cc.length ≤ 10000000) (hT : Tab G) (hm : MaxL G) :
    FnOk Tryz.prog 7 [v, vb, vc] G [] fun r _ H' => H' = [] ∧ r = .bool true := by
  obtain ⟨P, hP⟩ : ∃ P, madeO ⟨kind4 o.kind - 1, o.old, o.new⟩ = P := ⟨_, rfl⟩
  cases hx : doF P b with
  | none => exact lawConcat_a ho _hx hol hnl hb hl hcc hlc hP hx hT hm
  | some x =>
    cases hy : doF P cc with
    | none => exact lawConcat_b ho _hx hol hnl hb hl hcc hlc hP hx hy hT hm
    | some y => exact lawConcat_c ho _hx hol hnl hb hl hcc hlc hP hx hy hT hm


end Go.Proofs.YtffbfibpfnlfeaaGreatDoor
