import Derived.Test.YtacchhkefnokdaaExWalks
import Derived.Test.YtacchhkefnokdaaPlain
namespace Go.Proofs.Ytacchhkefnokdaa
open Go Go.Ex Go.RowKit


set_option maxHeartbeats 400000 in
set_option maxRecDepth 10000 in
theorem law6 {vL vT vC : Value} {G : Ghost} {L : List (List UInt8)} {T : List UInt8} {C : List Int} {z : Nat} (hL : LBytes G vL L) (hT : Bytes G vT T) (hC : Ints G vC C) (hz : z ≤ 255) :
    FnOk Try.prog 6 [.agg #[vL, vT, vC], .int .u8 (z : Int)] G [] fun r _ H' => H' = [] ∧ r = .bool true := by
  obtain ⟨vl, hL1, hL2⟩ := id hL
  obtain ⟨AL, cL, rfl, hL3⟩ := id hL1
  obtain ⟨AT, cT, rfl, _⟩ := id hT
  obtain ⟨AC, cC, rfl, _⟩ := id hC
  have hwl := wireF_len L T
  have hR : ∀ ps : List (List UInt8), ps.flatten = wireF L T → runF (⟨[], ((z % 16 : Nat) : Int), false⟩ : Dec) ps = finR (P (wireF L T) ((z % 16 : Nat) : Int)) := fun ps h => by
    rw [run_pieces ps (⟨[], ((z % 16 : Nat) : Int), false⟩ : Dec) rfl (by show (0 : Int) ≤ ((z % 16 : Nat) : Int); omega) (by show ((z % 16 : Nat) : Int) ≤ (1073741824 : Int); omega) (by rw [h]; show 0 + _ ≤ _; omega) (P_short (by show (0 : Nat) < 2; omega)), h]; rfl
  have hql : (finR (P (wireF L T) ((z % 16 : Nat) : Int))).2.1.length ≤ 564 := Nat.le_trans (proc_msgs_le _ _ _) hwl
  generalize finR (P (wireF L T) ((z % 16 : Nat) : Int)) = q at hR hql
  have hp := newF_t (n := ((z % 16 : Nat) : Int)) (by omega)
  refine FnOk.of_T [(0, _), (1, _)] Try.func6 rfl Try.ntmps6 (by simp) rfl fun w0 hs => ?_
  have hL0 := hL
  have hT0 := hT
  have hC0 := hC
  refine T_seq (T_region rfl ?_)
  refine O_s (S_box hs rfl (cs := [_, _, _]) rfl fun b2 _ hs => ?_)
  refine O_y hs (Y_assign rfl ?_)
  refine O_nil (T_sub [(1, _), (2, _)] ⟨rfl, rfl, trivial⟩ ?_)
  refine T_seq (T_region rfl ?_)
  refine O_s (S_call (H1 := []) hs rfl Try.func11 rfl (by kernel_rfl) (sanity_ok) fun v1 G' H' _ hR hG15 hs => ?_)
  obtain ⟨rfl, rfl⟩ := hR
  replace hs : St _ _ [_] _ := hs
  replace hL := hL.mono hG15
  replace hT := hT.mono hG15
  replace hC := hC.mono hG15
  refine O_y hs (Y_assign rfl ?_)
  refine O_nil (T_sub [(1, _), (2, _), (5, _)] ⟨rfl, rfl, rfl, trivial⟩ ?_)
  refine T_seq (T_region rfl ?_)
  refine O_y hs (Y_move rfl ?_)
  refine O_y hs (Y_conv Try.underlying5 Try.underlying3 (c := (z : Int)) rfl (wrap64_eq (by omega)) ?_)
  refine O_y hs (Y_rem (c := ((z % 16 : Nat) : Int)) rfl rfl (by omega) (by omega) (by omega) ?_)
  refine O_s (S_call (H1 := []) hs rfl Try.func15 rfl (by kernel_rfl) (new_eq (⟨[], ((z % 16 : Nat) : Int), false⟩, 0) hp) fun v2 G' H' _ hR hG20 hs => ?_)
  obtain ⟨rfl, dv20, rfl, u20, rfl, hu20⟩ := hR
  replace hs : St _ _ [_] _ := hs
  replace hL := hL.mono hG20
  replace hT := hT.mono hG20
  replace hC := hC.mono hG20
  obtain ⟨Au20, cu20, rfl, _⟩ := id hu20
  refine O_y hs (Y_move rfl ?_)
  refine O_y hs (Y_extract rfl rfl ?_)
  refine O_y hs (Y_extract rfl rfl ?_)
  refine O_s (S_alloc hs Try.zeroValue28 (cs := [_, _, _]) rfl fun b6 _ hs => ?_)
  refine O_n (S_stA hs Try.sizeOf28 rfl rfl (vs := [_, _, _]) rfl rfl (by simp) (cs' := [_, _, _]) rfl fun _ hs => ?_)
  refine O_y hs (Y_assign rfl ?_)
  refine O_nil (T_sub [(2, _), (5, _), (6, _), (7, _)] ⟨rfl, rfl, rfl, rfl, trivial⟩ ?_)
  refine T_seq (T_region rfl ?_)
  refine O_y hs (Y_ldA 1 Try.isAgg26 Try.sizeOf26 rfl rfl (vs := [_, _, _]) rfl rfl ?_)
  refine O_s (S_call (H1 := []) hs rfl Try.func12 rfl (by kernel_rfl) (bytes_ok hL hT rfl) fun v3 G' H' _ hR hG24 hs => ?_)
  obtain ⟨rfl, hw⟩ := hR
  obtain ⟨A24, c24, rfl, _⟩ := id hw
  replace hs : St _ _ [_, _] _ := hs
  replace hL := hL.mono hG24
  replace hT := hT.mono hG24
  replace hC := hC.mono hG24
  replace hu20 := hu20.mono hG24
  refine O_y hs (Y_assign rfl ?_)
  refine O_nil (T_sub [(2, _), (5, _), (6, _), (7, _), (8, _)] ⟨rfl, rfl, rfl, rfl, rfl, trivial⟩ ?_)
  refine T_seq (T_seq (T_region rfl ?_))
  refine O_y hs (Y_move rfl ?_)
  refine O_y hs (Y_cmpF rfl rfl rfl (by omega) ?_)
  refine O_nil (T_sub [(2, _), (5, _), (6, _), (8, _), (26, _)] ⟨rfl, rfl, rfl, rfl, rfl, trivial⟩ ?_)
  refine T_condF rfl (T_skip ?_)
  refine T_seq (T_region rfl ?_)
  refine O_y hs (Y_ldA 0 Try.isAgg28 Try.sizeOf28 rfl rfl (vs := [_, _, _]) rfl rfl ?_)
  refine O_y hs (Y_move rfl ?_)
  refine O_s (S_lit hs Try.underlying22 Try.sizeOf23 Try.zeroValue23 rfl rfl (by decide) (by decide) rfl (cs := [_]) rfl rfl fun v4 _ hs _ => ?_)
  obtain ⟨_, hG30, hl30, hs⟩ := hs.fixRow noM
  replace hL := hL.mono hG30
  replace hT := hT.mono hG30
  replace hC := hC.mono hG30
  replace hu20 := hu20.mono hG30
  replace hw := hw.mono hG30
  refine O_s (S_call (H1 := []) hs rfl Try.func27 rfl (by kernel_rfl) (run_eq (d := (⟨[], ((z % 16 : Nat) : Int), false⟩ : Dec)) (l := [wireF L T]) q ⟨_, rfl, hu20⟩ (LBytes.of (vs := [_]) hl30 ⟨hw, trivial⟩) (by simp) (fun x hx => by rw [List.mem_singleton.1 hx]; omega) (hR _ (by simp))) fun v5 G' H' _ hR hG31 hs => ?_)
  obtain ⟨rfl, dv31, mv31, rfl, ⟨u31, rfl, hu31⟩, hm31⟩ := hR
  replace hs : St _ _ [_, _] _ := hs
  replace hL := hL.mono hG31
  replace hT := hT.mono hG31
  replace hC := hC.mono hG31
  replace hu20 := hu20.mono hG31
  replace hw := hw.mono hG31
  obtain ⟨Au31, cu31, rfl, _⟩ := id hu31
  obtain ⟨vs31, hsl31, hvs31⟩ := id hm31
  obtain ⟨A31, c31, rfl, _⟩ := id hsl31
  refine O_y hs (Y_move rfl ?_)
  refine O_y hs (Y_extract rfl rfl ?_)
  refine O_y hs (Y_extract rfl rfl ?_)
  refine O_y hs (Y_extract rfl rfl ?_)
  refine O_s (S_alloc hs Try.zeroValue28 (cs := [_, _, _]) rfl fun b9 _ hs => ?_)
  refine O_n (S_stA hs Try.sizeOf28 rfl rfl (vs := [_, _, _]) rfl rfl (by simp) (cs' := [_, _, _]) rfl fun _ hs => ?_)
  refine O_y hs (Y_assign rfl ?_)
  refine O_y hs (Y_assign rfl ?_)
  refine O_nil (T_sub [(2, _), (5, _), (6, _), (8, _), (9, _), (10, _), (11, _)] ⟨rfl, rfl, rfl, rfl, rfl, rfl, rfl, trivial⟩ ?_)
  refine T_seq (T_drawS [0, 1, 2, 3, 4, 5, 6, 7, 10] hs (by kernel_rfl) ?_)
  replace hs := hs.drew
  refine A_take 0 rfl (by kernel_rfl) rfl hs (Y_ldA 1 Try.isAgg28 Try.sizeOf28 rfl rfl (vs := [_, _, _]) rfl rfl ?_)
  refine A_take 1 rfl (by kernel_rfl) rfl hs (Y_move rfl ?_)
  refine A_take 2 rfl (by kernel_rfl) rfl hs (Y_ldA 2 Try.isAgg26 Try.sizeOf26 rfl rfl (vs := [_, _, _]) rfl rfl ?_)
  refine A_two 3 10 rfl rfl (by kernel_rfl) rfl rfl ?_ ?_
  · -- operation 3 comes up
    have hle := hs.le
    refine S_call (H1 := []) hs rfl Try.func24 rfl (by kernel_rfl) (cuts_ok hC) fun v6 G' H' _ hR hG39 hs => ?_
    obtain ⟨rfl, hcu39⟩ := hR
    replace hs : St _ _ [_, _, _] _ := hs
    replace hL := hL.mono hG39
    replace hT := hT.mono hG39
    replace hC := hC.mono hG39
    replace hu20 := hu20.mono hG39
    replace hw := hw.mono hG39
    replace hu31 := hu31.mono hG39
    replace hm31 := hm31.mono hG39
    obtain ⟨Ac39, cc39, rfl, _⟩ := id hcu39
    refine A_moreS hs hle hG39 (List.Sublist.refl _) ?_
    refine A_two 4 10 rfl rfl (by kernel_rfl) rfl rfl ?_ ?_
    · -- operation 4 comes up
      have hle := hs.le
      refine S_call (H1 := []) hs rfl Try.func23 rfl (by kernel_rfl) (split_ok hw hcu39 (by omega) (by rw [List.length_take]; omega)) fun v7 G' H' _ hR hG40 hs => ?_
      obtain ⟨rfl, hsp40⟩ := hR
      replace hs : St _ _ [_, _, _] _ := hs
      replace hL := hL.mono hG40
      replace hT := hT.mono hG40
      replace hC := hC.mono hG40
      replace hu20 := hu20.mono hG40
      replace hw := hw.mono hG40
      replace hu31 := hu31.mono hG40
      replace hm31 := hm31.mono hG40
      replace hcu39 := hcu39.mono hG40
      refine A_moreS hs hle hG40 (List.Sublist.refl _) ?_
      refine A_two 5 10 rfl rfl (by kernel_rfl) rfl rfl ?_ ?_
      · -- operation 5 comes up
        have hle := hs.le
        refine S_call (H1 := []) hs rfl Try.func27 rfl (by kernel_rfl) (run_eq (d := (⟨[], ((z % 16 : Nat) : Int), false⟩ : Dec)) q ⟨_, rfl, hu20⟩ hsp40 (by rw [splitF_len, List.length_take]; omega) (fun x hx => by have := piecesF_mem_le _ _ _ x hx; omega) (hR _ (splitF_flat _ _))) fun v8 G' H' _ hR hG41 hs => ?_
        obtain ⟨rfl, dv41, mv41, rfl, ⟨u41, rfl, hu41⟩, hm41⟩ := hR
        replace hs : St _ _ [_, _, _] _ := hs
        replace hL := hL.mono hG41
        replace hT := hT.mono hG41
        replace hC := hC.mono hG41
        replace hu20 := hu20.mono hG41
        replace hw := hw.mono hG41
        replace hu31 := hu31.mono hG41
        replace hm31 := hm31.mono hG41
        replace hcu39 := hcu39.mono hG41
        replace hsp40 := hsp40.mono hG41
        obtain ⟨Au41, cu41, rfl, _⟩ := id hu41
        obtain ⟨vs41, hsl41, hvs41⟩ := id hm41
        obtain ⟨A41, c41, rfl, _⟩ := id hsl41
        refine A_moreS hs hle hG41 (List.Sublist.refl _) ?_
        refine A_take 6 rfl (by kernel_rfl) rfl hs (Y_move rfl ?_)
        refine A_pure 8 rfl (by kernel_rfl) rfl (Y_extract rfl rfl ?_)
        refine A_pure 9 rfl (by kernel_rfl) rfl (Y_extract rfl rfl ?_)
        refine A_take 7 rfl (by kernel_rfl) rfl hs (Y_extract rfl rfl ?_)
        have hle := hs.le
        refine A_only 10 rfl (by kernel_rfl) rfl (S_alloc hs Try.zeroValue28 (cs := [_, _, _]) rfl fun b12 _ hs => ?_)
        refine A_moreS hs hle (Ghost.le.refl _) (List.sublist_cons_self _ _) ?_
        refine A_tailN 11 rfl (by kernel_rfl) (by kernel_rfl) rfl (S_stA hs Try.sizeOf28 rfl rfl (vs := [_, _, _]) rfl rfl (by simp) (cs' := [_, _, _]) rfl fun _ hs => ?_)
        refine A_tail 12 rfl (by kernel_rfl) (by kernel_rfl) rfl (S_y hs rfl (Y_assign rfl ?_))
        refine A_tail 13 rfl (by kernel_rfl) (by kernel_rfl) rfl (S_y hs rfl (Y_assign rfl ?_))
        refine A_done (by kernel_rfl) (T_sub [(5, _), (9, _), (10, _), (11, _), (12, _), (13, _), (14, _)] ⟨rfl, rfl, rfl, rfl, rfl, rfl, rfl, trivial⟩ ?_)
        refine T_seq (T_region rfl ?_)
        refine O_y hs (Y_ldA 1 Try.isAgg28 Try.sizeOf28 rfl rfl (vs := [_, _, _]) rfl rfl ?_)
        refine O_y hs (Y_ldA 0 Try.isAgg28 Try.sizeOf28 rfl rfl (vs := [_, _, _]) rfl rfl ?_)
        refine O_s (S_call (H1 := []) hs rfl Try.func21 rfl (by kernel_rfl) (same_eq (d := q.1) (e := q.1) ⟨_, rfl, hu31⟩ ⟨_, rfl, hu41⟩ true (by simp)) fun v9 G' H' _ hR hG47 hs => ?_)
        obtain ⟨rfl, rfl⟩ := hR
        replace hs : St _ _ [_, _, _, _] _ := hs
        replace hL := hL.mono hG47
        replace hT := hT.mono hG47
        replace hC := hC.mono hG47
        replace hu20 := hu20.mono hG47
        replace hw := hw.mono hG47
        replace hu31 := hu31.mono hG47
        replace hm31 := hm31.mono hG47
        replace hcu39 := hcu39.mono hG47
        replace hsp40 := hsp40.mono hG47
        replace hu41 := hu41.mono hG47
        replace hm41 := hm41.mono hG47
        refine O_y hs (Y_move rfl ?_)
        refine O_yy 48 hs rfl rfl (Y_move rfl ?_)
        refine O_yy 48 hs rfl rfl (Y_move rfl ?_)
        refine O_yes 48 rfl rfl (S_call (H1 := []) hs rfl Try.func22 rfl (by kernel_rfl) (sameBytes_eq hm31 hm41 (by omega) true (by simp)) fun v10 G' H' _ hR hG51 hs => ?_)
        obtain ⟨rfl, rfl⟩ := hR
        replace hs : St _ _ [_, _, _, _] _ := hs
        replace hL := hL.mono hG51
        replace hT := hT.mono hG51
        replace hC := hC.mono hG51
        replace hu20 := hu20.mono hG51
        replace hw := hw.mono hG51
        replace hu31 := hu31.mono hG51
        replace hm31 := hm31.mono hG51
        replace hcu39 := hcu39.mono hG51
        replace hsp40 := hsp40.mono hG51
        replace hu41 := hu41.mono hG51
        replace hm41 := hm41.mono hG51
        refine O_y hs (Y_pickT rfl rfl ?_)
        refine O_y hs (Y_move rfl ?_)
        refine O_yy 53 hs rfl rfl (Y_move rfl ?_)
        refine O_yy 53 hs rfl rfl (Y_move rfl ?_)
        refine O_yy 53 hs rfl rfl (Y_cmpT rfl rfl rfl (rfl) ?_)
        refine O_y hs (Y_pickT rfl rfl ?_)
        refine O_y hs (Y_move rfl ?_)
        refine O_yy 58 hs rfl rfl (Y_move rfl ?_)
        refine O_y hs (Y_pickT rfl rfl ?_)
        refine O_y hs (Y_assign rfl ?_)
        refine O_nil (T_sub [(4, _)] ⟨rfl, trivial⟩ ?_)
        refine T_ret ?_
        refine Rt_fin (vs := [_]) Try.results6 rfl ⟨rfl, trivial⟩ ?_
        try dsimp only [tup]
        exact ⟨_, [], hs.done, rfl, rfl⟩
      · -- operation 10 comes up
        have hle := hs.le
        refine S_alloc hs Try.zeroValue28 (cs := [_, _, _]) rfl fun b12 _ hs => ?_
        refine A_moreS hs hle (Ghost.le.refl _) (List.sublist_cons_self _ _) ?_
        have hle := hs.le
        refine A_only 5 rfl (by kernel_rfl) rfl (S_call (H1 := []) hs rfl Try.func27 rfl (by kernel_rfl) (run_eq (d := (⟨[], ((z % 16 : Nat) : Int), false⟩ : Dec)) q ⟨_, rfl, hu20⟩ hsp40 (by rw [splitF_len, List.length_take]; omega) (fun x hx => by have := piecesF_mem_le _ _ _ x hx; omega) (hR _ (splitF_flat _ _))) fun v11 G' H' _ hR hG41 hs => ?_)
        obtain ⟨rfl, dv41, mv41, rfl, ⟨u41, rfl, hu41⟩, hm41⟩ := hR
        replace hs : St _ _ [_, _, _, _] _ := hs
        replace hL := hL.mono hG41
        replace hT := hT.mono hG41
        replace hC := hC.mono hG41
        replace hu20 := hu20.mono hG41
        replace hw := hw.mono hG41
        replace hu31 := hu31.mono hG41
        replace hm31 := hm31.mono hG41
        replace hcu39 := hcu39.mono hG41
        replace hsp40 := hsp40.mono hG41
        obtain ⟨Au41, cu41, rfl, _⟩ := id hu41
        obtain ⟨vs41, hsl41, hvs41⟩ := id hm41
        obtain ⟨A41, c41, rfl, _⟩ := id hsl41
        refine A_moreS hs hle hG41 (List.Sublist.refl _) ?_
        refine A_take 6 rfl (by kernel_rfl) rfl hs (Y_move rfl ?_)
        refine A_pure 8 rfl (by kernel_rfl) rfl (Y_extract rfl rfl ?_)
        refine A_pure 9 rfl (by kernel_rfl) rfl (Y_extract rfl rfl ?_)
        refine A_take 7 rfl (by kernel_rfl) rfl hs (Y_extract rfl rfl ?_)
        refine A_tailN 11 rfl (by kernel_rfl) (by kernel_rfl) rfl (S_stA hs Try.sizeOf28 rfl rfl (vs := [_, _, _]) rfl rfl (by simp) (cs' := [_, _, _]) rfl fun _ hs => ?_)
        refine A_tail 12 rfl (by kernel_rfl) (by kernel_rfl) rfl (S_y hs rfl (Y_assign rfl ?_))
        refine A_tail 13 rfl (by kernel_rfl) (by kernel_rfl) rfl (S_y hs rfl (Y_assign rfl ?_))
        refine A_done (by kernel_rfl) (T_sub [(5, _), (9, _), (10, _), (11, _), (12, _), (13, _), (14, _)] ⟨rfl, rfl, rfl, rfl, rfl, rfl, rfl, trivial⟩ ?_)
        refine T_seq (T_region rfl ?_)
        refine O_y hs (Y_ldA 1 Try.isAgg28 Try.sizeOf28 rfl rfl (vs := [_, _, _]) rfl rfl ?_)
        refine O_y hs (Y_ldA 0 Try.isAgg28 Try.sizeOf28 rfl rfl (vs := [_, _, _]) rfl rfl ?_)
        refine O_s (S_call (H1 := []) hs rfl Try.func21 rfl (by kernel_rfl) (same_eq (d := q.1) (e := q.1) ⟨_, rfl, hu31⟩ ⟨_, rfl, hu41⟩ true (by simp)) fun v12 G' H' _ hR hG47 hs => ?_)
        obtain ⟨rfl, rfl⟩ := hR
        replace hs : St _ _ [_, _, _, _] _ := hs
        replace hL := hL.mono hG47
        replace hT := hT.mono hG47
        replace hC := hC.mono hG47
        replace hu20 := hu20.mono hG47
        replace hw := hw.mono hG47
        replace hu31 := hu31.mono hG47
        replace hm31 := hm31.mono hG47
        replace hcu39 := hcu39.mono hG47
        replace hsp40 := hsp40.mono hG47
        replace hu41 := hu41.mono hG47
        replace hm41 := hm41.mono hG47
        refine O_y hs (Y_move rfl ?_)
        refine O_yy 48 hs rfl rfl (Y_move rfl ?_)
        refine O_yy 48 hs rfl rfl (Y_move rfl ?_)
        refine O_yes 48 rfl rfl (S_call (H1 := []) hs rfl Try.func22 rfl (by kernel_rfl) (sameBytes_eq hm31 hm41 (by omega) true (by simp)) fun v13 G' H' _ hR hG51 hs => ?_)
        obtain ⟨rfl, rfl⟩ := hR
        replace hs : St _ _ [_, _, _, _] _ := hs
        replace hL := hL.mono hG51
        replace hT := hT.mono hG51
        replace hC := hC.mono hG51
        replace hu20 := hu20.mono hG51
        replace hw := hw.mono hG51
        replace hu31 := hu31.mono hG51
        replace hm31 := hm31.mono hG51
        replace hcu39 := hcu39.mono hG51
        replace hsp40 := hsp40.mono hG51
        replace hu41 := hu41.mono hG51
        replace hm41 := hm41.mono hG51
        refine O_y hs (Y_pickT rfl rfl ?_)
        refine O_y hs (Y_move rfl ?_)
        refine O_yy 53 hs rfl rfl (Y_move rfl ?_)
        refine O_yy 53 hs rfl rfl (Y_move rfl ?_)
        refine O_yy 53 hs rfl rfl (Y_cmpT rfl rfl rfl (rfl) ?_)
        refine O_y hs (Y_pickT rfl rfl ?_)
        refine O_y hs (Y_move rfl ?_)
        refine O_yy 58 hs rfl rfl (Y_move rfl ?_)
        refine O_y hs (Y_pickT rfl rfl ?_)
        refine O_y hs (Y_assign rfl ?_)
        refine O_nil (T_sub [(4, _)] ⟨rfl, trivial⟩ ?_)
        refine T_ret ?_
        refine Rt_fin (vs := [_]) Try.results6 rfl ⟨rfl, trivial⟩ ?_
        try dsimp only [tup]
        exact ⟨_, [], hs.done, rfl, rfl⟩
    · -- operation 10 comes up
      have hle := hs.le
      refine S_alloc hs Try.zeroValue28 (cs := [_, _, _]) rfl fun b12 _ hs => ?_
      refine A_moreS hs hle (Ghost.le.refl _) (List.sublist_cons_self _ _) ?_
      have hle := hs.le
      refine A_only 4 rfl (by kernel_rfl) rfl (S_call (H1 := []) hs rfl Try.func23 rfl (by kernel_rfl) (split_ok hw hcu39 (by omega) (by rw [List.length_take]; omega)) fun v14 G' H' _ hR hG40 hs => ?_)
      obtain ⟨rfl, hsp40⟩ := hR
      replace hs : St _ _ [_, _, _, _] _ := hs
      replace hL := hL.mono hG40
      replace hT := hT.mono hG40
      replace hC := hC.mono hG40
      replace hu20 := hu20.mono hG40
      replace hw := hw.mono hG40
      replace hu31 := hu31.mono hG40
      replace hm31 := hm31.mono hG40
      replace hcu39 := hcu39.mono hG40
      refine A_moreS hs hle hG40 (List.Sublist.refl _) ?_
      have hle := hs.le
      refine A_only 5 rfl (by kernel_rfl) rfl (S_call (H1 := []) hs rfl Try.func27 rfl (by kernel_rfl) (run_eq (d := (⟨[], ((z % 16 : Nat) : Int), false⟩ : Dec)) q ⟨_, rfl, hu20⟩ hsp40 (by rw [splitF_len, List.length_take]; omega) (fun x hx => by have := piecesF_mem_le _ _ _ x hx; omega) (hR _ (splitF_flat _ _))) fun v15 G' H' _ hR hG41 hs => ?_)
      obtain ⟨rfl, dv41, mv41, rfl, ⟨u41, rfl, hu41⟩, hm41⟩ := hR
      replace hs : St _ _ [_, _, _, _] _ := hs
      replace hL := hL.mono hG41
      replace hT := hT.mono hG41
      replace hC := hC.mono hG41
      replace hu20 := hu20.mono hG41
      replace hw := hw.mono hG41
      replace hu31 := hu31.mono hG41
      replace hm31 := hm31.mono hG41
      replace hcu39 := hcu39.mono hG41
      replace hsp40 := hsp40.mono hG41
      obtain ⟨Au41, cu41, rfl, _⟩ := id hu41
      obtain ⟨vs41, hsl41, hvs41⟩ := id hm41
      obtain ⟨A41, c41, rfl, _⟩ := id hsl41
      refine A_moreS hs hle hG41 (List.Sublist.refl _) ?_
      refine A_take 6 rfl (by kernel_rfl) rfl hs (Y_move rfl ?_)
      refine A_pure 8 rfl (by kernel_rfl) rfl (Y_extract rfl rfl ?_)
      refine A_pure 9 rfl (by kernel_rfl) rfl (Y_extract rfl rfl ?_)
      refine A_take 7 rfl (by kernel_rfl) rfl hs (Y_extract rfl rfl ?_)
      refine A_tailN 11 rfl (by kernel_rfl) (by kernel_rfl) rfl (S_stA hs Try.sizeOf28 rfl rfl (vs := [_, _, _]) rfl rfl (by simp) (cs' := [_, _, _]) rfl fun _ hs => ?_)
      refine A_tail 12 rfl (by kernel_rfl) (by kernel_rfl) rfl (S_y hs rfl (Y_assign rfl ?_))
      refine A_tail 13 rfl (by kernel_rfl) (by kernel_rfl) rfl (S_y hs rfl (Y_assign rfl ?_))
      refine A_done (by kernel_rfl) (T_sub [(5, _), (9, _), (10, _), (11, _), (12, _), (13, _), (14, _)] ⟨rfl, rfl, rfl, rfl, rfl, rfl, rfl, trivial⟩ ?_)
      refine T_seq (T_region rfl ?_)
      refine O_y hs (Y_ldA 1 Try.isAgg28 Try.sizeOf28 rfl rfl (vs := [_, _, _]) rfl rfl ?_)
      refine O_y hs (Y_ldA 0 Try.isAgg28 Try.sizeOf28 rfl rfl (vs := [_, _, _]) rfl rfl ?_)
      refine O_s (S_call (H1 := []) hs rfl Try.func21 rfl (by kernel_rfl) (same_eq (d := q.1) (e := q.1) ⟨_, rfl, hu31⟩ ⟨_, rfl, hu41⟩ true (by simp)) fun v16 G' H' _ hR hG47 hs => ?_)
      obtain ⟨rfl, rfl⟩ := hR
      replace hs : St _ _ [_, _, _, _] _ := hs
      replace hL := hL.mono hG47
      replace hT := hT.mono hG47
      replace hC := hC.mono hG47
      replace hu20 := hu20.mono hG47
      replace hw := hw.mono hG47
      replace hu31 := hu31.mono hG47
      replace hm31 := hm31.mono hG47
      replace hcu39 := hcu39.mono hG47
      replace hsp40 := hsp40.mono hG47
      replace hu41 := hu41.mono hG47
      replace hm41 := hm41.mono hG47
      refine O_y hs (Y_move rfl ?_)
      refine O_yy 48 hs rfl rfl (Y_move rfl ?_)
      refine O_yy 48 hs rfl rfl (Y_move rfl ?_)
      refine O_yes 48 rfl rfl (S_call (H1 := []) hs rfl Try.func22 rfl (by kernel_rfl) (sameBytes_eq hm31 hm41 (by omega) true (by simp)) fun v17 G' H' _ hR hG51 hs => ?_)
      obtain ⟨rfl, rfl⟩ := hR
      replace hs : St _ _ [_, _, _, _] _ := hs
      replace hL := hL.mono hG51
      replace hT := hT.mono hG51
      replace hC := hC.mono hG51
      replace hu20 := hu20.mono hG51
      replace hw := hw.mono hG51
      replace hu31 := hu31.mono hG51
      replace hm31 := hm31.mono hG51
      replace hcu39 := hcu39.mono hG51
      replace hsp40 := hsp40.mono hG51
      replace hu41 := hu41.mono hG51
      replace hm41 := hm41.mono hG51
      refine O_y hs (Y_pickT rfl rfl ?_)
      refine O_y hs (Y_move rfl ?_)
      refine O_yy 53 hs rfl rfl (Y_move rfl ?_)
      refine O_yy 53 hs rfl rfl (Y_move rfl ?_)
      refine O_yy 53 hs rfl rfl (Y_cmpT rfl rfl rfl (rfl) ?_)
      refine O_y hs (Y_pickT rfl rfl ?_)
      refine O_y hs (Y_move rfl ?_)
      refine O_yy 58 hs rfl rfl (Y_move rfl ?_)
      refine O_y hs (Y_pickT rfl rfl ?_)
      refine O_y hs (Y_assign rfl ?_)
      refine O_nil (T_sub [(4, _)] ⟨rfl, trivial⟩ ?_)
      refine T_ret ?_
      refine Rt_fin (vs := [_]) Try.results6 rfl ⟨rfl, trivial⟩ ?_
      try dsimp only [tup]
      exact ⟨_, [], hs.done, rfl, rfl⟩
  · -- operation 10 comes up
    have hle := hs.le
    refine S_alloc hs Try.zeroValue28 (cs := [_, _, _]) rfl fun b12 _ hs => ?_
    refine A_moreS hs hle (Ghost.le.refl _) (List.sublist_cons_self _ _) ?_
    have hle := hs.le
    refine A_only 3 rfl (by kernel_rfl) rfl (S_call (H1 := []) hs rfl Try.func24 rfl (by kernel_rfl) (cuts_ok hC) fun v18 G' H' _ hR hG39 hs => ?_)
    obtain ⟨rfl, hcu39⟩ := hR
    replace hs : St _ _ [_, _, _, _] _ := hs
    replace hL := hL.mono hG39
    replace hT := hT.mono hG39
    replace hC := hC.mono hG39
    replace hu20 := hu20.mono hG39
    replace hw := hw.mono hG39
    replace hu31 := hu31.mono hG39
    replace hm31 := hm31.mono hG39
    obtain ⟨Ac39, cc39, rfl, _⟩ := id hcu39
    refine A_moreS hs hle hG39 (List.Sublist.refl _) ?_
    have hle := hs.le
    refine A_only 4 rfl (by kernel_rfl) rfl (S_call (H1 := []) hs rfl Try.func23 rfl (by kernel_rfl) (split_ok hw hcu39 (by omega) (by rw [List.length_take]; omega)) fun v19 G' H' _ hR hG40 hs => ?_)
    obtain ⟨rfl, hsp40⟩ := hR
    replace hs : St _ _ [_, _, _, _] _ := hs
    replace hL := hL.mono hG40
    replace hT := hT.mono hG40
    replace hC := hC.mono hG40
    replace hu20 := hu20.mono hG40
    replace hw := hw.mono hG40
    replace hu31 := hu31.mono hG40
    replace hm31 := hm31.mono hG40
    replace hcu39 := hcu39.mono hG40
    refine A_moreS hs hle hG40 (List.Sublist.refl _) ?_
    have hle := hs.le
    refine A_only 5 rfl (by kernel_rfl) rfl (S_call (H1 := []) hs rfl Try.func27 rfl (by kernel_rfl) (run_eq (d := (⟨[], ((z % 16 : Nat) : Int), false⟩ : Dec)) q ⟨_, rfl, hu20⟩ hsp40 (by rw [splitF_len, List.length_take]; omega) (fun x hx => by have := piecesF_mem_le _ _ _ x hx; omega) (hR _ (splitF_flat _ _))) fun v20 G' H' _ hR hG41 hs => ?_)
    obtain ⟨rfl, dv41, mv41, rfl, ⟨u41, rfl, hu41⟩, hm41⟩ := hR
    replace hs : St _ _ [_, _, _, _] _ := hs
    replace hL := hL.mono hG41
    replace hT := hT.mono hG41
    replace hC := hC.mono hG41
    replace hu20 := hu20.mono hG41
    replace hw := hw.mono hG41
    replace hu31 := hu31.mono hG41
    replace hm31 := hm31.mono hG41
    replace hcu39 := hcu39.mono hG41
    replace hsp40 := hsp40.mono hG41
    obtain ⟨Au41, cu41, rfl, _⟩ := id hu41
    obtain ⟨vs41, hsl41, hvs41⟩ := id hm41
    obtain ⟨A41, c41, rfl, _⟩ := id hsl41
    refine A_moreS hs hle hG41 (List.Sublist.refl _) ?_
    refine A_take 6 rfl (by kernel_rfl) rfl hs (Y_move rfl ?_)
    refine A_pure 8 rfl (by kernel_rfl) rfl (Y_extract rfl rfl ?_)
    refine A_pure 9 rfl (by kernel_rfl) rfl (Y_extract rfl rfl ?_)
    refine A_take 7 rfl (by kernel_rfl) rfl hs (Y_extract rfl rfl ?_)
    refine A_tailN 11 rfl (by kernel_rfl) (by kernel_rfl) rfl (S_stA hs Try.sizeOf28 rfl rfl (vs := [_, _, _]) rfl rfl (by simp) (cs' := [_, _, _]) rfl fun _ hs => ?_)
    refine A_tail 12 rfl (by kernel_rfl) (by kernel_rfl) rfl (S_y hs rfl (Y_assign rfl ?_))
    refine A_tail 13 rfl (by kernel_rfl) (by kernel_rfl) rfl (S_y hs rfl (Y_assign rfl ?_))
    refine A_done (by kernel_rfl) (T_sub [(5, _), (9, _), (10, _), (11, _), (12, _), (13, _), (14, _)] ⟨rfl, rfl, rfl, rfl, rfl, rfl, rfl, trivial⟩ ?_)
    refine T_seq (T_region rfl ?_)
    refine O_y hs (Y_ldA 1 Try.isAgg28 Try.sizeOf28 rfl rfl (vs := [_, _, _]) rfl rfl ?_)
    refine O_y hs (Y_ldA 0 Try.isAgg28 Try.sizeOf28 rfl rfl (vs := [_, _, _]) rfl rfl ?_)
    refine O_s (S_call (H1 := []) hs rfl Try.func21 rfl (by kernel_rfl) (same_eq (d := q.1) (e := q.1) ⟨_, rfl, hu31⟩ ⟨_, rfl, hu41⟩ true (by simp)) fun v21 G' H' _ hR hG47 hs => ?_)
    obtain ⟨rfl, rfl⟩ := hR
    replace hs : St _ _ [_, _, _, _] _ := hs
    replace hL := hL.mono hG47
    replace hT := hT.mono hG47
    replace hC := hC.mono hG47
    replace hu20 := hu20.mono hG47
    replace hw := hw.mono hG47
    replace hu31 := hu31.mono hG47
    replace hm31 := hm31.mono hG47
    replace hcu39 := hcu39.mono hG47
    replace hsp40 := hsp40.mono hG47
    replace hu41 := hu41.mono hG47
    replace hm41 := hm41.mono hG47
    refine O_y hs (Y_move rfl ?_)
    refine O_yy 48 hs rfl rfl (Y_move rfl ?_)
    refine O_yy 48 hs rfl rfl (Y_move rfl ?_)
    refine O_yes 48 rfl rfl (S_call (H1 := []) hs rfl Try.func22 rfl (by kernel_rfl) (sameBytes_eq hm31 hm41 (by omega) true (by simp)) fun v22 G' H' _ hR hG51 hs => ?_)
    obtain ⟨rfl, rfl⟩ := hR
    replace hs : St _ _ [_, _, _, _] _ := hs
    replace hL := hL.mono hG51
    replace hT := hT.mono hG51
    replace hC := hC.mono hG51
    replace hu20 := hu20.mono hG51
    replace hw := hw.mono hG51
    replace hu31 := hu31.mono hG51
    replace hm31 := hm31.mono hG51
    replace hcu39 := hcu39.mono hG51
    replace hsp40 := hsp40.mono hG51
    replace hu41 := hu41.mono hG51
    replace hm41 := hm41.mono hG51
    refine O_y hs (Y_pickT rfl rfl ?_)
    refine O_y hs (Y_move rfl ?_)
    refine O_yy 53 hs rfl rfl (Y_move rfl ?_)
    refine O_yy 53 hs rfl rfl (Y_move rfl ?_)
    refine O_yy 53 hs rfl rfl (Y_cmpT rfl rfl rfl (rfl) ?_)
    refine O_y hs (Y_pickT rfl rfl ?_)
    refine O_y hs (Y_move rfl ?_)
    refine O_yy 58 hs rfl rfl (Y_move rfl ?_)
    refine O_y hs (Y_pickT rfl rfl ?_)
    refine O_y hs (Y_assign rfl ?_)
    refine O_nil (T_sub [(4, _)] ⟨rfl, trivial⟩ ?_)
    refine T_ret ?_
    refine Rt_fin (vs := [_]) Try.results6 rfl ⟨rfl, trivial⟩ ?_
    try dsimp only [tup]
    exact ⟨_, [], hs.done, rfl, rfl⟩

end Go.Proofs.Ytacchhkefnokdaa
