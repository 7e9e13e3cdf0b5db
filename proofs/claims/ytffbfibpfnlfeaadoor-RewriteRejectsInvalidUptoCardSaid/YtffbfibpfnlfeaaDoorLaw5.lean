import Derived.Test.YtffbfibpfnlfeaaDoorExWalks4
import Derived.Test.YtffbfibpfnlfeaaDoorProg
import Derived.Test.YtffbfibpfnlfeaaDoorPlain
import Derived.Test.YtffbfibpfnlfeaaDoorShelf
namespace Go.Proofs.YtffbfibpfnlfeaaDoor
open Go Go.Ex Go.RowKit





set_option maxHeartbeats 1000000 in
set_option maxRecDepth 10000 in
theorem law5 {G : Ghost} {v vb : Value} {o : OpV} {k : Nat} {b : List UInt8} (ho : OpR G v o) (_hx : -9223372036854775808 ≤ o.kind ∧ o.kind ≤ 9223372036854775807) (hol : o.old.length ≤ 10000000) (hnl : o.new.length ≤ 10000000) (hk : k ≤ 255) (hb : Bytes G vb b) (hbl : b.length ≤ 10000000) (hT : Tab G) (hm : MaxL G) :
    FnOk Tryd.prog 5 [v, .int .u8 (k : Int), vb] G [] fun r _ H' => H' = [] ∧ r = .bool true := by
  obtain ⟨u1, u2, rfl, ho1, ho2⟩ := ho
  obtain ⟨A1, c1, rfl, _⟩ := id ho1
  obtain ⟨A2, c2, rfl, _⟩ := id ho2
  obtain ⟨A, cap, rfl, _⟩ := id hb
  refine FnOk.of_T [(0, _), (1, _), (2, _)] Tryd.func5 rfl Tryd.ntmps5 (by simp) rfl fun w0 hs => ?_
  have ho10 := ho1
  have ho20 := ho2
  have hb0 := hb
  have hT0 := hT
  have hm0 := hm
  refine T_seq (T_region rfl ?_)
  refine O_s (S_box hs rfl (cs := [_, _, _]) rfl fun b3 _ hs => ?_)
  refine O_y hs (Y_assign rfl ?_)
  refine O_nil (T_sub [(1, _), (2, _), (3, _)] ⟨rfl, rfl, rfl, trivial⟩ ?_)
  refine T_seq (T_region rfl ?_)
  refine O_s (S_call (H1 := []) hs rfl Tryd.func6 rfl (by kernel_rfl) (sanity_ok hT hm) fun v1 G' H' _ hR hG14 hs => ?_)
  obtain ⟨rfl, rfl⟩ := hR
  replace hs : St _ _ [_] _ := hs
  replace ho1 := ho1.mono hG14
  replace ho2 := ho2.mono hG14
  replace hb := hb.mono hG14
  replace hT := hT.mono hG14
  replace hm := hm.mono hG14
  refine O_y hs (Y_assign rfl ?_)
  refine O_nil (T_sub [(1, _), (2, _), (3, _), (7, _)] ⟨rfl, rfl, rfl, rfl, trivial⟩ ?_)
  refine T_seq (T_region rfl ?_)
  refine O_y hs (Y_ldA 0 Tryd.isAgg25 Tryd.sizeOf25 rfl rfl (vs := [_, _, _]) rfl rfl ?_)
  refine O_s (S_call (H1 := []) hs rfl Tryd.func9 rfl (by kernel_rfl) (made_ok ⟨_, _, rfl, ho1, ho2⟩ hol hnl) fun v2 G' H' _ hR hG16 hs => ?_)
  obtain ⟨rfl, hmo⟩ := hR
  replace hs : St _ _ [_] _ := hs
  replace ho1 := ho1.mono hG16
  replace ho2 := ho2.mono hG16
  replace hb := hb.mono hG16
  replace hT := hT.mono hG16
  replace hm := hm.mono hG16
  obtain ⟨w1, w2, rfl, hp1, hp2⟩ := id hmo
  obtain ⟨A5, c5, rfl, _⟩ := id hp1
  obtain ⟨A6, c6, rfl, _⟩ := id hp2
  refine O_s (S_alloc hs Tryd.zeroValue25 (cs := [_, _, _]) rfl fun b8 _ hs => ?_)
  refine O_n (S_stA hs Tryd.sizeOf25 rfl rfl (vs := [_, _, _]) rfl (rfl) (by simp) (cs' := [_, _, _]) rfl fun _ hs => ?_)
  refine O_nil (T_sub [(1, _), (2, _), (7, _), (8, _)] ⟨rfl, rfl, rfl, rfl, trivial⟩ ?_)
  refine T_seq (T_region rfl ?_)
  refine O_s (S_lit hs Tryd.underlying22 Tryd.sizeOf5 Tryd.zeroValue5 rfl rfl (by decide) (by decide) rfl (cs := [_, _, _, _, _, _, _, _, _]) rfl rfl fun v3 _ hs shv3 => ?_)
  obtain ⟨bx17, rfl⟩ := id shv3
  refine O_s (S_mark hs shv3 rfl Tryd.underlying22 Tryd.underlying5 noM fun _ _ hG18 hl18 hs => ?_)
  replace ho1 := ho1.mono hG18
  replace ho2 := ho2.mono hG18
  replace hb := hb.mono hG18
  replace hT := hT.mono hG18
  replace hm := hm.mono hG18
  replace hp1 := hp1.mono hG18
  replace hp2 := hp2.mono hG18
  refine O_y hs (Y_assign rfl ?_)
  refine O_nil (T_sub [(1, _), (2, _), (7, _), (8, _), (9, _)] ⟨rfl, rfl, rfl, rfl, rfl, trivial⟩ ?_)
  refine T_seq (T_seq (T_region rfl ?_))
  refine O_y hs (Y_move rfl ?_)
  refine O_y hs (Y_rem (c := ((k % 4 : Nat) : Int)) rfl rfl (by omega) (by decide) (by omega) ?_)
  refine O_nil (T_sub [(1, _), (2, _), (7, _), (8, _), (9, _), (20, _)] ⟨rfl, rfl, rfl, rfl, rfl, rfl, trivial⟩ ?_)
  refine T_block (T_seq (T_region rfl ?_))
  refine O_y hs (Y_cmpS rfl rfl rfl (fun h22 => ?_) (fun h22 => ?_))
  · -- h22: True
    dsimp only [cmpP] at h22
    refine O_y hs (Y_assign rfl ?_)
    refine O_nil (T_sub [(1, _), (2, _), (7, _), (8, _), (9, _), (20, _), (21, _)] ⟨rfl, rfl, rfl, rfl, rfl, rfl, rfl, trivial⟩ ?_)
    refine T_condT rfl (T_region rfl ?_)
    refine O_y hs (Y_move rfl ?_)
    refine O_y hs (Y_quoU (c := ((k / 4 : Nat) : Int)) rfl rfl (by omega) (by decide) (by omega) ?_)
    refine O_y hs (Y_rem (c := ((k / 4 % 2 : Nat) : Int)) rfl rfl (by omega) (by decide) (by omega) ?_)
    refine O_y hs (Y_conv Tryd.underlying5 Tryd.underlying3 (c := ((k / 4 % 2 : Nat) : Int)) rfl (wrap64_eq (by omega)) ?_)
    refine O_y hs (Y_mul (c := ((9 * (k / 4 % 2) : Nat) : Int)) rfl rfl (by omega) (by omega) ?_)
    refine O_y hs (Y_fieldAddr FO25_0 rfl (m := 0) rfl ?_)
    refine O_n (S_st hs Tryd.sizeOf3 rfl rfl rfl (by simp) (cs' := [_, _, _]) rfl fun _ hs => ?_)
    refine O_nil (T_sub [(2, _), (7, _), (8, _)] ⟨rfl, rfl, rfl, trivial⟩ ?_)
    refine T_seq (T_region rfl ?_)
    refine O_y hs (Y_ldA 0 Tryd.isAgg25 Tryd.sizeOf25 rfl rfl (vs := [_, _, _]) rfl rfl ?_)
    refine O_y hs (Y_move rfl ?_)
    have hbad : validO ⟨((9 * (k / 4 % 2) : Nat) : Int), (madeO o).old, (madeO o).new⟩ = false := bad_kind (by omega)
    refine O_s (S_call (H1 := []) hs rfl Tryd.func7 rfl (by kernel_rfl) (do_eq (o := ⟨((9 * (k / 4 % 2) : Nat) : Int), (madeO o).old, (madeO o).new⟩) (none) (doBad hbad) ⟨_, _, rfl, hp1, hp2⟩ hb (by omega) hm) fun v4 G' H' _ hR hG51 hs => ?_)
    obtain ⟨rfl, u51, rfl, hu51⟩ := hR
    replace hs : St _ _ [_, _] _ := hs
    replace ho1 := ho1.mono hG51
    replace ho2 := ho2.mono hG51
    replace hb := hb.mono hG51
    replace hT := hT.mono hG51
    replace hm := hm.mono hG51
    replace hp1 := hp1.mono hG51
    replace hp2 := hp2.mono hG51
    replace hl18 := hl18.mono hG51
    replace hu51 : Bytes _ _ ([]) := hu51
    obtain ⟨A51, c51, rfl, _⟩ := id hu51
    refine O_y hs (Y_move rfl ?_)
    refine O_y hs (Y_extract rfl rfl ?_)
    refine O_y hs (Y_extract rfl rfl ?_)
    refine O_y hs (Y_assign rfl ?_)
    refine O_y hs (Y_assign rfl ?_)
    refine O_nil (T_sub [(7, _), (8, _), (10, _), (11, _)] ⟨rfl, rfl, rfl, rfl, trivial⟩ ?_)
    refine T_seq (T_region rfl ?_)
    refine O_y hs (Y_ldA 0 Tryd.isAgg25 Tryd.sizeOf25 rfl rfl (vs := [_, _, _]) rfl rfl ?_)
    refine O_s (S_call (H1 := []) hs rfl Tryd.func10 rfl (by kernel_rfl) (mach_bad (o := ⟨((9 * (k / 4 % 2) : Nat) : Int), (madeO o).old, (madeO o).new⟩) ⟨_, _, rfl, hp1, hp2⟩ hbad) fun v5 G' H' _ hR hG56 hs => ?_)
    obtain ⟨rfl, rfl⟩ := hR
    replace hs : St _ _ [_, _] _ := hs
    replace ho1 := ho1.mono hG56
    replace ho2 := ho2.mono hG56
    replace hb := hb.mono hG56
    replace hT := hT.mono hG56
    replace hm := hm.mono hG56
    replace hp1 := hp1.mono hG56
    replace hp2 := hp2.mono hG56
    replace hl18 := hl18.mono hG56
    replace hu51 := hu51.mono hG56
    refine O_y hs (Y_move rfl ?_)
    refine O_y hs (Y_extract rfl rfl ?_)
    refine O_y hs (Y_extract rfl rfl ?_)
    refine O_s (S_alloc hs Tryd.zeroValue37 (cs := [_, _, _, _]) rfl fun b12 _ hs => ?_)
    refine O_n (S_stA hs Tryd.sizeOf37 rfl rfl (vs := [_, _, _, _]) rfl (rfl) (by simp) (cs' := [_, _, _, _]) rfl fun _ hs => ?_)
    refine O_y hs (Y_assign rfl ?_)
    refine O_nil (T_sub [(7, _), (8, _), (10, _), (11, _), (12, _), (13, _)] ⟨rfl, rfl, rfl, rfl, rfl, rfl, trivial⟩ ?_)
    refine T_seq (T_region rfl ?_)
    refine O_y hs (Y_move rfl ?_)
    refine O_y hs (Y_move rfl ?_)
    refine O_yy 60 hs rfl rfl (Y_ldA 1 Tryd.isAgg25 Tryd.sizeOf25 rfl rfl (vs := [_, _, _]) rfl rfl ?_)
    refine O_yes 60 rfl rfl (S_call (H1 := []) hs rfl Tryd.func11 rfl (by kernel_rfl) (valid_ok (o := ⟨((9 * (k / 4 % 2) : Nat) : Int), (madeO o).old, (madeO o).new⟩) ⟨_, _, rfl, hp1, hp2⟩) fun v6 G' H' _ hR hG62 hs => ?_)
    obtain ⟨rfl, rfl⟩ := hR
    replace hs : St _ _ [_, _, _] _ := hs
    replace ho1 := ho1.mono hG62
    replace ho2 := ho2.mono hG62
    replace hb := hb.mono hG62
    replace hT := hT.mono hG62
    replace hm := hm.mono hG62
    replace hp1 := hp1.mono hG62
    replace hp2 := hp2.mono hG62
    replace hl18 := hl18.mono hG62
    replace hu51 := hu51.mono hG62
    rw [show (if validO ⟨((9 * (k / 4 % 2) : Nat) : Int), (madeO o).old, (madeO o).new⟩ = true then (0 : Int) else 1) = 1 from if_neg (by rw [hbad]; decide)]
    refine O_yy 60 hs rfl rfl (Y_cmpT rfl rfl rfl (by decide) ?_)
    refine O_y hs (Y_pickT rfl rfl ?_)
    refine O_y hs (Y_move rfl ?_)
    refine O_yy 65 hs rfl rfl (Y_move rfl ?_)
    refine O_yy 65 hs rfl rfl (Y_not rfl ?_)
    refine O_y hs (Y_pickT rfl rfl ?_)
    refine O_y hs (Y_move rfl ?_)
    refine O_yy 69 hs rfl rfl (Y_move rfl ?_)
    refine O_yy 69 hs rfl rfl (Y_len Tryd.underlying22 rfl ?_)
    refine O_yy 69 hs rfl rfl (Y_cmpT rfl rfl rfl (rfl) ?_)
    refine O_y hs (Y_pickT rfl rfl ?_)
    refine O_y hs (Y_move rfl ?_)
    refine O_yy 74 hs rfl rfl (Y_move rfl ?_)
    refine O_yy 74 hs rfl rfl (Y_cmpT rfl rfl rfl (by decide) ?_)
    refine O_y hs (Y_pickT rfl rfl ?_)
    refine O_y hs (Y_move rfl ?_)
    refine O_yy 78 hs rfl rfl (Y_fieldAddr FO37_1 rfl (m := 1) rfl ?_)
    refine O_yy 78 hs rfl rfl (Y_ld 0 Tryd.isAgg33 rfl rfl rfl ?_)
    refine O_yy 78 hs rfl rfl (Y_len Tryd.underlying33 rfl ?_)
    refine O_yy 78 hs rfl rfl (Y_cmpT rfl rfl rfl (by decide) ?_)
    refine O_y hs (Y_pickT rfl rfl ?_)
    refine O_y hs (Y_assign rfl ?_)
    refine O_nil (T_sub [(6, _)] ⟨rfl, trivial⟩ ?_)
    refine T_ret ?_
    refine Rt_fin (vs := [_]) Tryd.results5 rfl ⟨rfl, trivial⟩ ?_
    try dsimp only [tup]
    exact ⟨_, [], hs.done, rfl, rfl⟩
  · -- h22: False
    dsimp only [cmpP] at h22
    refine O_y hs (Y_assign rfl ?_)
    refine O_nil (T_sub [(1, _), (2, _), (7, _), (8, _), (9, _), (20, _), (21, _)] ⟨rfl, rfl, rfl, rfl, rfl, rfl, rfl, trivial⟩ ?_)
    refine T_condF rfl (T_seq (T_region rfl ?_))
    refine O_y hs (Y_cmpS rfl rfl rfl (fun h30 => ?_) (fun h30 => ?_))
    · -- h30: True
      dsimp only [cmpP] at h30
      refine O_y hs (Y_assign rfl ?_)
      refine O_nil (T_sub [(2, _), (7, _), (8, _), (9, _), (20, _), (29, _)] ⟨rfl, rfl, rfl, rfl, rfl, rfl, trivial⟩ ?_)
      refine T_condT rfl (T_region rfl ?_)
      refine O_y hs (Y_move rfl ?_)
      refine O_y hs (Y_fieldAddr FO25_1 rfl (m := 1) rfl ?_)
      refine O_n (S_st hs Tryd.sizeOf22 rfl rfl rfl (by simp) (cs' := [_, _, _]) rfl fun _ hs => ?_)
      refine O_nil (T_sub [(2, _), (7, _), (8, _)] ⟨rfl, rfl, rfl, trivial⟩ ?_)
      refine T_seq (T_region rfl ?_)
      refine O_y hs (Y_ldA 0 Tryd.isAgg25 Tryd.sizeOf25 rfl rfl (vs := [_, _, _]) rfl rfl ?_)
      refine O_y hs (Y_move rfl ?_)
      have hbad : validO ⟨(madeO o).kind, [49, 50, 51, 52, 53, 54, 55, 56, 57], (madeO o).new⟩ = false := bad_long (.inl (by decide))
      refine O_s (S_call (H1 := []) hs rfl Tryd.func7 rfl (by kernel_rfl) (do_eq (o := ⟨(madeO o).kind, [49, 50, 51, 52, 53, 54, 55, 56, 57], (madeO o).new⟩) (none) (doBad hbad) ⟨_, _, rfl, (Bytes.ofSl (bs := [49, 50, 51, 52, 53, 54, 55, 56, 57]) hl18 rfl rfl), hp2⟩ hb (by omega) hm) fun v7 G' H' _ hR hG51 hs => ?_)
      obtain ⟨rfl, u51, rfl, hu51⟩ := hR
      replace hs : St _ _ [_, _] _ := hs
      replace ho1 := ho1.mono hG51
      replace ho2 := ho2.mono hG51
      replace hb := hb.mono hG51
      replace hT := hT.mono hG51
      replace hm := hm.mono hG51
      replace hp1 := hp1.mono hG51
      replace hp2 := hp2.mono hG51
      replace hl18 := hl18.mono hG51
      replace hu51 : Bytes _ _ ([]) := hu51
      obtain ⟨A51, c51, rfl, _⟩ := id hu51
      refine O_y hs (Y_move rfl ?_)
      refine O_y hs (Y_extract rfl rfl ?_)
      refine O_y hs (Y_extract rfl rfl ?_)
      refine O_y hs (Y_assign rfl ?_)
      refine O_y hs (Y_assign rfl ?_)
      refine O_nil (T_sub [(7, _), (8, _), (10, _), (11, _)] ⟨rfl, rfl, rfl, rfl, trivial⟩ ?_)
      refine T_seq (T_region rfl ?_)
      refine O_y hs (Y_ldA 0 Tryd.isAgg25 Tryd.sizeOf25 rfl rfl (vs := [_, _, _]) rfl rfl ?_)
      refine O_s (S_call (H1 := []) hs rfl Tryd.func10 rfl (by kernel_rfl) (mach_bad (o := ⟨(madeO o).kind, [49, 50, 51, 52, 53, 54, 55, 56, 57], (madeO o).new⟩) ⟨_, _, rfl, (Bytes.ofSl (bs := [49, 50, 51, 52, 53, 54, 55, 56, 57]) hl18 rfl rfl), hp2⟩ hbad) fun v8 G' H' _ hR hG56 hs => ?_)
      obtain ⟨rfl, rfl⟩ := hR
      replace hs : St _ _ [_, _] _ := hs
      replace ho1 := ho1.mono hG56
      replace ho2 := ho2.mono hG56
      replace hb := hb.mono hG56
      replace hT := hT.mono hG56
      replace hm := hm.mono hG56
      replace hp1 := hp1.mono hG56
      replace hp2 := hp2.mono hG56
      replace hl18 := hl18.mono hG56
      replace hu51 := hu51.mono hG56
      refine O_y hs (Y_move rfl ?_)
      refine O_y hs (Y_extract rfl rfl ?_)
      refine O_y hs (Y_extract rfl rfl ?_)
      refine O_s (S_alloc hs Tryd.zeroValue37 (cs := [_, _, _, _]) rfl fun b12 _ hs => ?_)
      refine O_n (S_stA hs Tryd.sizeOf37 rfl rfl (vs := [_, _, _, _]) rfl (rfl) (by simp) (cs' := [_, _, _, _]) rfl fun _ hs => ?_)
      refine O_y hs (Y_assign rfl ?_)
      refine O_nil (T_sub [(7, _), (8, _), (10, _), (11, _), (12, _), (13, _)] ⟨rfl, rfl, rfl, rfl, rfl, rfl, trivial⟩ ?_)
      refine T_seq (T_region rfl ?_)
      refine O_y hs (Y_move rfl ?_)
      refine O_y hs (Y_move rfl ?_)
      refine O_yy 60 hs rfl rfl (Y_ldA 1 Tryd.isAgg25 Tryd.sizeOf25 rfl rfl (vs := [_, _, _]) rfl rfl ?_)
      refine O_yes 60 rfl rfl (S_call (H1 := []) hs rfl Tryd.func11 rfl (by kernel_rfl) (valid_ok (o := ⟨(madeO o).kind, [49, 50, 51, 52, 53, 54, 55, 56, 57], (madeO o).new⟩) ⟨_, _, rfl, (Bytes.ofSl (bs := [49, 50, 51, 52, 53, 54, 55, 56, 57]) hl18 rfl rfl), hp2⟩) fun v9 G' H' _ hR hG62 hs => ?_)
      obtain ⟨rfl, rfl⟩ := hR
      replace hs : St _ _ [_, _, _] _ := hs
      replace ho1 := ho1.mono hG62
      replace ho2 := ho2.mono hG62
      replace hb := hb.mono hG62
      replace hT := hT.mono hG62
      replace hm := hm.mono hG62
      replace hp1 := hp1.mono hG62
      replace hp2 := hp2.mono hG62
      replace hl18 := hl18.mono hG62
      replace hu51 := hu51.mono hG62
      rw [show (if validO ⟨(madeO o).kind, [49, 50, 51, 52, 53, 54, 55, 56, 57], (madeO o).new⟩ = true then (0 : Int) else 1) = 1 from if_neg (by rw [hbad]; decide)]
      refine O_yy 60 hs rfl rfl (Y_cmpT rfl rfl rfl (by decide) ?_)
      refine O_y hs (Y_pickT rfl rfl ?_)
      refine O_y hs (Y_move rfl ?_)
      refine O_yy 65 hs rfl rfl (Y_move rfl ?_)
      refine O_yy 65 hs rfl rfl (Y_not rfl ?_)
      refine O_y hs (Y_pickT rfl rfl ?_)
      refine O_y hs (Y_move rfl ?_)
      refine O_yy 69 hs rfl rfl (Y_move rfl ?_)
      refine O_yy 69 hs rfl rfl (Y_len Tryd.underlying22 rfl ?_)
      refine O_yy 69 hs rfl rfl (Y_cmpT rfl rfl rfl (rfl) ?_)
      refine O_y hs (Y_pickT rfl rfl ?_)
      refine O_y hs (Y_move rfl ?_)
      refine O_yy 74 hs rfl rfl (Y_move rfl ?_)
      refine O_yy 74 hs rfl rfl (Y_cmpT rfl rfl rfl (by decide) ?_)
      refine O_y hs (Y_pickT rfl rfl ?_)
      refine O_y hs (Y_move rfl ?_)
      refine O_yy 78 hs rfl rfl (Y_fieldAddr FO37_1 rfl (m := 1) rfl ?_)
      refine O_yy 78 hs rfl rfl (Y_ld 0 Tryd.isAgg33 rfl rfl rfl ?_)
      refine O_yy 78 hs rfl rfl (Y_len Tryd.underlying33 rfl ?_)
      refine O_yy 78 hs rfl rfl (Y_cmpT rfl rfl rfl (by decide) ?_)
      refine O_y hs (Y_pickT rfl rfl ?_)
      refine O_y hs (Y_assign rfl ?_)
      refine O_nil (T_sub [(6, _)] ⟨rfl, trivial⟩ ?_)
      refine T_ret ?_
      refine Rt_fin (vs := [_]) Tryd.results5 rfl ⟨rfl, trivial⟩ ?_
      try dsimp only [tup]
      exact ⟨_, [], hs.done, rfl, rfl⟩
    · -- h30: False
      dsimp only [cmpP] at h30
      refine O_y hs (Y_assign rfl ?_)
      refine O_nil (T_sub [(2, _), (7, _), (8, _), (9, _), (20, _), (29, _)] ⟨rfl, rfl, rfl, rfl, rfl, rfl, trivial⟩ ?_)
      refine T_condF rfl (T_seq (T_region rfl ?_))
      refine O_y hs (Y_cmpS rfl rfl rfl (fun h34 => ?_) (fun h34 => ?_))
      · -- h34: True
        dsimp only [cmpP] at h34
        refine O_y hs (Y_assign rfl ?_)
        refine O_nil (T_sub [(2, _), (7, _), (8, _), (9, _), (20, _), (33, _)] ⟨rfl, rfl, rfl, rfl, rfl, rfl, trivial⟩ ?_)
        refine T_condT rfl (T_region rfl ?_)
        refine O_y hs (Y_move rfl ?_)
        refine O_y hs (Y_sliceB (Bytes.ofSl (bs := [49, 50, 51, 52, 53, 54, 55, 56, 57]) hl18 rfl rfl) 0 5 Tryd.underlying22 Tryd.sizeOf5 rfl rfl ⟨_, _, rfl, rfl⟩ (by decide) (by decide) fun s36 hs36 => ?_)
        obtain ⟨A36, c36, rfl, _⟩ := id hs36
        refine O_y hs (Y_fieldAddr FO25_2 rfl (m := 2) rfl ?_)
        refine O_n (S_st hs Tryd.sizeOf22 rfl rfl rfl (by simp) (cs' := [_, _, _]) rfl fun _ hs => ?_)
        refine O_nil (T_sub [(2, _), (7, _), (8, _)] ⟨rfl, rfl, rfl, trivial⟩ ?_)
        refine T_seq (T_region rfl ?_)
        refine O_y hs (Y_ldA 0 Tryd.isAgg25 Tryd.sizeOf25 rfl rfl (vs := [_, _, _]) rfl rfl ?_)
        refine O_y hs (Y_move rfl ?_)
        have hbad : validO ⟨(madeO o).kind, (madeO o).old, List.take (5 - 0) (List.drop 0 [49, 50, 51, 52, 53, 54, 55, 56, 57])⟩ = false := bad_long (.inr (by decide))
        refine O_s (S_call (H1 := []) hs rfl Tryd.func7 rfl (by kernel_rfl) (do_eq (o := ⟨(madeO o).kind, (madeO o).old, List.take (5 - 0) (List.drop 0 [49, 50, 51, 52, 53, 54, 55, 56, 57])⟩) (none) (doBad hbad) ⟨_, _, rfl, hp1, hs36⟩ hb (by omega) hm) fun v10 G' H' _ hR hG51 hs => ?_)
        obtain ⟨rfl, u51, rfl, hu51⟩ := hR
        replace hs : St _ _ [_, _] _ := hs
        replace ho1 := ho1.mono hG51
        replace ho2 := ho2.mono hG51
        replace hb := hb.mono hG51
        replace hT := hT.mono hG51
        replace hm := hm.mono hG51
        replace hp1 := hp1.mono hG51
        replace hp2 := hp2.mono hG51
        replace hl18 := hl18.mono hG51
        replace hs36 := hs36.mono hG51
        replace hu51 : Bytes _ _ ([]) := hu51
        obtain ⟨A51, c51, rfl, _⟩ := id hu51
        refine O_y hs (Y_move rfl ?_)
        refine O_y hs (Y_extract rfl rfl ?_)
        refine O_y hs (Y_extract rfl rfl ?_)
        refine O_y hs (Y_assign rfl ?_)
        refine O_y hs (Y_assign rfl ?_)
        refine O_nil (T_sub [(7, _), (8, _), (10, _), (11, _)] ⟨rfl, rfl, rfl, rfl, trivial⟩ ?_)
        refine T_seq (T_region rfl ?_)
        refine O_y hs (Y_ldA 0 Tryd.isAgg25 Tryd.sizeOf25 rfl rfl (vs := [_, _, _]) rfl rfl ?_)
        refine O_s (S_call (H1 := []) hs rfl Tryd.func10 rfl (by kernel_rfl) (mach_bad (o := ⟨(madeO o).kind, (madeO o).old, List.take (5 - 0) (List.drop 0 [49, 50, 51, 52, 53, 54, 55, 56, 57])⟩) ⟨_, _, rfl, hp1, hs36⟩ hbad) fun v11 G' H' _ hR hG56 hs => ?_)
        obtain ⟨rfl, rfl⟩ := hR
        replace hs : St _ _ [_, _] _ := hs
        replace ho1 := ho1.mono hG56
        replace ho2 := ho2.mono hG56
        replace hb := hb.mono hG56
        replace hT := hT.mono hG56
        replace hm := hm.mono hG56
        replace hp1 := hp1.mono hG56
        replace hp2 := hp2.mono hG56
        replace hl18 := hl18.mono hG56
        replace hs36 := hs36.mono hG56
        replace hu51 := hu51.mono hG56
        refine O_y hs (Y_move rfl ?_)
        refine O_y hs (Y_extract rfl rfl ?_)
        refine O_y hs (Y_extract rfl rfl ?_)
        refine O_s (S_alloc hs Tryd.zeroValue37 (cs := [_, _, _, _]) rfl fun b12 _ hs => ?_)
        refine O_n (S_stA hs Tryd.sizeOf37 rfl rfl (vs := [_, _, _, _]) rfl (rfl) (by simp) (cs' := [_, _, _, _]) rfl fun _ hs => ?_)
        refine O_y hs (Y_assign rfl ?_)
        refine O_nil (T_sub [(7, _), (8, _), (10, _), (11, _), (12, _), (13, _)] ⟨rfl, rfl, rfl, rfl, rfl, rfl, trivial⟩ ?_)
        refine T_seq (T_region rfl ?_)
        refine O_y hs (Y_move rfl ?_)
        refine O_y hs (Y_move rfl ?_)
        refine O_yy 60 hs rfl rfl (Y_ldA 1 Tryd.isAgg25 Tryd.sizeOf25 rfl rfl (vs := [_, _, _]) rfl rfl ?_)
        refine O_yes 60 rfl rfl (S_call (H1 := []) hs rfl Tryd.func11 rfl (by kernel_rfl) (valid_ok (o := ⟨(madeO o).kind, (madeO o).old, List.take (5 - 0) (List.drop 0 [49, 50, 51, 52, 53, 54, 55, 56, 57])⟩) ⟨_, _, rfl, hp1, hs36⟩) fun v12 G' H' _ hR hG62 hs => ?_)
        obtain ⟨rfl, rfl⟩ := hR
        replace hs : St _ _ [_, _, _] _ := hs
        replace ho1 := ho1.mono hG62
        replace ho2 := ho2.mono hG62
        replace hb := hb.mono hG62
        replace hT := hT.mono hG62
        replace hm := hm.mono hG62
        replace hp1 := hp1.mono hG62
        replace hp2 := hp2.mono hG62
        replace hl18 := hl18.mono hG62
        replace hs36 := hs36.mono hG62
        replace hu51 := hu51.mono hG62
        rw [show (if validO ⟨(madeO o).kind, (madeO o).old, List.take (5 - 0) (List.drop 0 [49, 50, 51, 52, 53, 54, 55, 56, 57])⟩ = true then (0 : Int) else 1) = 1 from if_neg (by rw [hbad]; decide)]
        refine O_yy 60 hs rfl rfl (Y_cmpT rfl rfl rfl (by decide) ?_)
        refine O_y hs (Y_pickT rfl rfl ?_)
        refine O_y hs (Y_move rfl ?_)
        refine O_yy 65 hs rfl rfl (Y_move rfl ?_)
        refine O_yy 65 hs rfl rfl (Y_not rfl ?_)
        refine O_y hs (Y_pickT rfl rfl ?_)
        refine O_y hs (Y_move rfl ?_)
        refine O_yy 69 hs rfl rfl (Y_move rfl ?_)
        refine O_yy 69 hs rfl rfl (Y_len Tryd.underlying22 rfl ?_)
        refine O_yy 69 hs rfl rfl (Y_cmpT rfl rfl rfl (rfl) ?_)
        refine O_y hs (Y_pickT rfl rfl ?_)
        refine O_y hs (Y_move rfl ?_)
        refine O_yy 74 hs rfl rfl (Y_move rfl ?_)
        refine O_yy 74 hs rfl rfl (Y_cmpT rfl rfl rfl (by decide) ?_)
        refine O_y hs (Y_pickT rfl rfl ?_)
        refine O_y hs (Y_move rfl ?_)
        refine O_yy 78 hs rfl rfl (Y_fieldAddr FO37_1 rfl (m := 1) rfl ?_)
        refine O_yy 78 hs rfl rfl (Y_ld 0 Tryd.isAgg33 rfl rfl rfl ?_)
        refine O_yy 78 hs rfl rfl (Y_len Tryd.underlying33 rfl ?_)
        refine O_yy 78 hs rfl rfl (Y_cmpT rfl rfl rfl (by decide) ?_)
        refine O_y hs (Y_pickT rfl rfl ?_)
        refine O_y hs (Y_assign rfl ?_)
        refine O_nil (T_sub [(6, _)] ⟨rfl, trivial⟩ ?_)
        refine T_ret ?_
        refine Rt_fin (vs := [_]) Tryd.results5 rfl ⟨rfl, trivial⟩ ?_
        try dsimp only [tup]
        exact ⟨_, [], hs.done, rfl, rfl⟩
      · -- h34: False
        dsimp only [cmpP] at h34
        refine O_y hs (Y_assign rfl ?_)
        refine O_nil (T_sub [(2, _), (7, _), (8, _), (9, _), (20, _), (33, _)] ⟨rfl, rfl, rfl, rfl, rfl, rfl, trivial⟩ ?_)
        refine T_condF rfl (T_seq (T_region rfl ?_))
        refine O_y hs (Y_cmpT rfl rfl rfl (by simp only [cmpP]; omega) ?_)
        refine O_y hs (Y_assign rfl ?_)
        refine O_nil (T_sub [(2, _), (7, _), (8, _), (9, _), (38, _)] ⟨rfl, rfl, rfl, rfl, rfl, trivial⟩ ?_)
        refine T_condT rfl (T_seq (T_region rfl ?_))
        refine O_y hs (Y_fieldAddr FO25_1 rfl (m := 1) rfl ?_)
        refine O_y hs (Y_ld 0 Tryd.isAgg22 rfl rfl rfl ?_)
        refine O_y hs (Y_len Tryd.underlying22 rfl ?_)
        refine O_y hs (Y_cmpS rfl rfl rfl (fun h43 => ?_) (fun h43 => ?_))
        · -- h43: True
          dsimp only [cmpP] at h43
          refine O_nil (T_sub [(2, _), (7, _), (8, _), (9, _), (43, _)] ⟨rfl, rfl, rfl, rfl, rfl, trivial⟩ ?_)
          refine T_condT rfl (T_region rfl ?_)
          refine O_y hs (Y_move rfl ?_)
          refine O_y hs (Y_sliceB (Bytes.ofSl (bs := [49, 50, 51, 52, 53, 54, 55, 56, 57]) hl18 rfl rfl) 0 1 Tryd.underlying22 Tryd.sizeOf5 rfl rfl ⟨_, _, rfl, rfl⟩ (by decide) (by decide) fun s45 hs45 => ?_)
          obtain ⟨A45, c45, rfl, _⟩ := id hs45
          refine O_y hs (Y_fieldAddr FO25_1 rfl (m := 1) rfl ?_)
          refine O_n (S_st hs Tryd.sizeOf22 rfl rfl rfl (by simp) (cs' := [_, _, _]) rfl fun _ hs => ?_)
          refine O_nil (T_sub [(2, _), (7, _), (8, _)] ⟨rfl, rfl, rfl, trivial⟩ ?_)
          refine T_seq (T_region rfl ?_)
          refine O_y hs (Y_ldA 0 Tryd.isAgg25 Tryd.sizeOf25 rfl rfl (vs := [_, _, _]) rfl rfl ?_)
          refine O_y hs (Y_move rfl ?_)
          have hbad : validO ⟨(madeO o).kind, List.take (1 - 0) (List.drop 0 [49, 50, 51, 52, 53, 54, 55, 56, 57]), (madeO o).new⟩ = false := bad_add (List.length_eq_zero_iff.1 (by omega)) (by decide)
          refine O_s (S_call (H1 := []) hs rfl Tryd.func7 rfl (by kernel_rfl) (do_eq (o := ⟨(madeO o).kind, List.take (1 - 0) (List.drop 0 [49, 50, 51, 52, 53, 54, 55, 56, 57]), (madeO o).new⟩) (none) (doBad hbad) ⟨_, _, rfl, hs45, hp2⟩ hb (by omega) hm) fun v13 G' H' _ hR hG51 hs => ?_)
          obtain ⟨rfl, u51, rfl, hu51⟩ := hR
          replace hs : St _ _ [_, _] _ := hs
          replace ho1 := ho1.mono hG51
          replace ho2 := ho2.mono hG51
          replace hb := hb.mono hG51
          replace hT := hT.mono hG51
          replace hm := hm.mono hG51
          replace hp1 := hp1.mono hG51
          replace hp2 := hp2.mono hG51
          replace hl18 := hl18.mono hG51
          replace hs45 := hs45.mono hG51
          replace hu51 : Bytes _ _ ([]) := hu51
          obtain ⟨A51, c51, rfl, _⟩ := id hu51
          refine O_y hs (Y_move rfl ?_)
          refine O_y hs (Y_extract rfl rfl ?_)
          refine O_y hs (Y_extract rfl rfl ?_)
          refine O_y hs (Y_assign rfl ?_)
          refine O_y hs (Y_assign rfl ?_)
          refine O_nil (T_sub [(7, _), (8, _), (10, _), (11, _)] ⟨rfl, rfl, rfl, rfl, trivial⟩ ?_)
          refine T_seq (T_region rfl ?_)
          refine O_y hs (Y_ldA 0 Tryd.isAgg25 Tryd.sizeOf25 rfl rfl (vs := [_, _, _]) rfl rfl ?_)
          refine O_s (S_call (H1 := []) hs rfl Tryd.func10 rfl (by kernel_rfl) (mach_bad (o := ⟨(madeO o).kind, List.take (1 - 0) (List.drop 0 [49, 50, 51, 52, 53, 54, 55, 56, 57]), (madeO o).new⟩) ⟨_, _, rfl, hs45, hp2⟩ hbad) fun v14 G' H' _ hR hG56 hs => ?_)
          obtain ⟨rfl, rfl⟩ := hR
          replace hs : St _ _ [_, _] _ := hs
          replace ho1 := ho1.mono hG56
          replace ho2 := ho2.mono hG56
          replace hb := hb.mono hG56
          replace hT := hT.mono hG56
          replace hm := hm.mono hG56
          replace hp1 := hp1.mono hG56
          replace hp2 := hp2.mono hG56
          replace hl18 := hl18.mono hG56
          replace hs45 := hs45.mono hG56
          replace hu51 := hu51.mono hG56
          refine O_y hs (Y_move rfl ?_)
          refine O_y hs (Y_extract rfl rfl ?_)
          refine O_y hs (Y_extract rfl rfl ?_)
          refine O_s (S_alloc hs Tryd.zeroValue37 (cs := [_, _, _, _]) rfl fun b12 _ hs => ?_)
          refine O_n (S_stA hs Tryd.sizeOf37 rfl rfl (vs := [_, _, _, _]) rfl (rfl) (by simp) (cs' := [_, _, _, _]) rfl fun _ hs => ?_)
          refine O_y hs (Y_assign rfl ?_)
          refine O_nil (T_sub [(7, _), (8, _), (10, _), (11, _), (12, _), (13, _)] ⟨rfl, rfl, rfl, rfl, rfl, rfl, trivial⟩ ?_)
          refine T_seq (T_region rfl ?_)
          refine O_y hs (Y_move rfl ?_)
          refine O_y hs (Y_move rfl ?_)
          refine O_yy 60 hs rfl rfl (Y_ldA 1 Tryd.isAgg25 Tryd.sizeOf25 rfl rfl (vs := [_, _, _]) rfl rfl ?_)
          refine O_yes 60 rfl rfl (S_call (H1 := []) hs rfl Tryd.func11 rfl (by kernel_rfl) (valid_ok (o := ⟨(madeO o).kind, List.take (1 - 0) (List.drop 0 [49, 50, 51, 52, 53, 54, 55, 56, 57]), (madeO o).new⟩) ⟨_, _, rfl, hs45, hp2⟩) fun v15 G' H' _ hR hG62 hs => ?_)
          obtain ⟨rfl, rfl⟩ := hR
          replace hs : St _ _ [_, _, _] _ := hs
          replace ho1 := ho1.mono hG62
          replace ho2 := ho2.mono hG62
          replace hb := hb.mono hG62
          replace hT := hT.mono hG62
          replace hm := hm.mono hG62
          replace hp1 := hp1.mono hG62
          replace hp2 := hp2.mono hG62
          replace hl18 := hl18.mono hG62
          replace hs45 := hs45.mono hG62
          replace hu51 := hu51.mono hG62
          rw [show (if validO ⟨(madeO o).kind, List.take (1 - 0) (List.drop 0 [49, 50, 51, 52, 53, 54, 55, 56, 57]), (madeO o).new⟩ = true then (0 : Int) else 1) = 1 from if_neg (by rw [hbad]; decide)]
          refine O_yy 60 hs rfl rfl (Y_cmpT rfl rfl rfl (by decide) ?_)
          refine O_y hs (Y_pickT rfl rfl ?_)
          refine O_y hs (Y_move rfl ?_)
          refine O_yy 65 hs rfl rfl (Y_move rfl ?_)
          refine O_yy 65 hs rfl rfl (Y_not rfl ?_)
          refine O_y hs (Y_pickT rfl rfl ?_)
          refine O_y hs (Y_move rfl ?_)
          refine O_yy 69 hs rfl rfl (Y_move rfl ?_)
          refine O_yy 69 hs rfl rfl (Y_len Tryd.underlying22 rfl ?_)
          refine O_yy 69 hs rfl rfl (Y_cmpT rfl rfl rfl (rfl) ?_)
          refine O_y hs (Y_pickT rfl rfl ?_)
          refine O_y hs (Y_move rfl ?_)
          refine O_yy 74 hs rfl rfl (Y_move rfl ?_)
          refine O_yy 74 hs rfl rfl (Y_cmpT rfl rfl rfl (by decide) ?_)
          refine O_y hs (Y_pickT rfl rfl ?_)
          refine O_y hs (Y_move rfl ?_)
          refine O_yy 78 hs rfl rfl (Y_fieldAddr FO37_1 rfl (m := 1) rfl ?_)
          refine O_yy 78 hs rfl rfl (Y_ld 0 Tryd.isAgg33 rfl rfl rfl ?_)
          refine O_yy 78 hs rfl rfl (Y_len Tryd.underlying33 rfl ?_)
          refine O_yy 78 hs rfl rfl (Y_cmpT rfl rfl rfl (by decide) ?_)
          refine O_y hs (Y_pickT rfl rfl ?_)
          refine O_y hs (Y_assign rfl ?_)
          refine O_nil (T_sub [(6, _)] ⟨rfl, trivial⟩ ?_)
          refine T_ret ?_
          refine Rt_fin (vs := [_]) Tryd.results5 rfl ⟨rfl, trivial⟩ ?_
          try dsimp only [tup]
          exact ⟨_, [], hs.done, rfl, rfl⟩
        · -- h43: False
          dsimp only [cmpP] at h43
          refine O_nil (T_sub [(2, _), (7, _), (8, _), (9, _), (43, _)] ⟨rfl, rfl, rfl, rfl, rfl, trivial⟩ ?_)
          refine T_condF rfl (T_region rfl ?_)
          refine O_y hs (Y_fieldAddr FO25_1 rfl (m := 1) rfl ?_)
          refine O_n (S_st hs Tryd.sizeOf22 rfl rfl rfl (by simp) (cs' := [_, _, _]) rfl fun _ hs => ?_)
          refine O_nil (T_sub [(2, _), (7, _), (8, _)] ⟨rfl, rfl, rfl, trivial⟩ ?_)
          refine T_seq (T_region rfl ?_)
          refine O_y hs (Y_ldA 0 Tryd.isAgg25 Tryd.sizeOf25 rfl rfl (vs := [_, _, _]) rfl rfl ?_)
          refine O_y hs (Y_move rfl ?_)
          have hbad : validO ⟨(madeO o).kind, [], (madeO o).new⟩ = false := bad_drop (fun h => h43 (by rw [h]; rfl))
          refine O_s (S_call (H1 := []) hs rfl Tryd.func7 rfl (by kernel_rfl) (do_eq (o := ⟨(madeO o).kind, [], (madeO o).new⟩) (none) (doBad hbad) ⟨_, _, rfl, (Sl.nil _ _), hp2⟩ hb (by omega) hm) fun v16 G' H' _ hR hG51 hs => ?_)
          obtain ⟨rfl, u51, rfl, hu51⟩ := hR
          replace hs : St _ _ [_, _] _ := hs
          replace ho1 := ho1.mono hG51
          replace ho2 := ho2.mono hG51
          replace hb := hb.mono hG51
          replace hT := hT.mono hG51
          replace hm := hm.mono hG51
          replace hp1 := hp1.mono hG51
          replace hp2 := hp2.mono hG51
          replace hl18 := hl18.mono hG51
          replace hu51 : Bytes _ _ ([]) := hu51
          obtain ⟨A51, c51, rfl, _⟩ := id hu51
          refine O_y hs (Y_move rfl ?_)
          refine O_y hs (Y_extract rfl rfl ?_)
          refine O_y hs (Y_extract rfl rfl ?_)
          refine O_y hs (Y_assign rfl ?_)
          refine O_y hs (Y_assign rfl ?_)
          refine O_nil (T_sub [(7, _), (8, _), (10, _), (11, _)] ⟨rfl, rfl, rfl, rfl, trivial⟩ ?_)
          refine T_seq (T_region rfl ?_)
          refine O_y hs (Y_ldA 0 Tryd.isAgg25 Tryd.sizeOf25 rfl rfl (vs := [_, _, _]) rfl rfl ?_)
          refine O_s (S_call (H1 := []) hs rfl Tryd.func10 rfl (by kernel_rfl) (mach_bad (o := ⟨(madeO o).kind, [], (madeO o).new⟩) ⟨_, _, rfl, (Sl.nil _ _), hp2⟩ hbad) fun v17 G' H' _ hR hG56 hs => ?_)
          obtain ⟨rfl, rfl⟩ := hR
          replace hs : St _ _ [_, _] _ := hs
          replace ho1 := ho1.mono hG56
          replace ho2 := ho2.mono hG56
          replace hb := hb.mono hG56
          replace hT := hT.mono hG56
          replace hm := hm.mono hG56
          replace hp1 := hp1.mono hG56
          replace hp2 := hp2.mono hG56
          replace hl18 := hl18.mono hG56
          replace hu51 := hu51.mono hG56
          refine O_y hs (Y_move rfl ?_)
          refine O_y hs (Y_extract rfl rfl ?_)
          refine O_y hs (Y_extract rfl rfl ?_)
          refine O_s (S_alloc hs Tryd.zeroValue37 (cs := [_, _, _, _]) rfl fun b12 _ hs => ?_)
          refine O_n (S_stA hs Tryd.sizeOf37 rfl rfl (vs := [_, _, _, _]) rfl (rfl) (by simp) (cs' := [_, _, _, _]) rfl fun _ hs => ?_)
          refine O_y hs (Y_assign rfl ?_)
          refine O_nil (T_sub [(7, _), (8, _), (10, _), (11, _), (12, _), (13, _)] ⟨rfl, rfl, rfl, rfl, rfl, rfl, trivial⟩ ?_)
          refine T_seq (T_region rfl ?_)
          refine O_y hs (Y_move rfl ?_)
          refine O_y hs (Y_move rfl ?_)
          refine O_yy 60 hs rfl rfl (Y_ldA 1 Tryd.isAgg25 Tryd.sizeOf25 rfl rfl (vs := [_, _, _]) rfl rfl ?_)
          refine O_yes 60 rfl rfl (S_call (H1 := []) hs rfl Tryd.func11 rfl (by kernel_rfl) (valid_ok (o := ⟨(madeO o).kind, [], (madeO o).new⟩) ⟨_, _, rfl, (Sl.nil _ _), hp2⟩) fun v18 G' H' _ hR hG62 hs => ?_)
          obtain ⟨rfl, rfl⟩ := hR
          replace hs : St _ _ [_, _, _] _ := hs
          replace ho1 := ho1.mono hG62
          replace ho2 := ho2.mono hG62
          replace hb := hb.mono hG62
          replace hT := hT.mono hG62
          replace hm := hm.mono hG62
          replace hp1 := hp1.mono hG62
          replace hp2 := hp2.mono hG62
          replace hl18 := hl18.mono hG62
          replace hu51 := hu51.mono hG62
          rw [show (if validO ⟨(madeO o).kind, [], (madeO o).new⟩ = true then (0 : Int) else 1) = 1 from if_neg (by rw [hbad]; decide)]
          refine O_yy 60 hs rfl rfl (Y_cmpT rfl rfl rfl (by decide) ?_)
          refine O_y hs (Y_pickT rfl rfl ?_)
          refine O_y hs (Y_move rfl ?_)
          refine O_yy 65 hs rfl rfl (Y_move rfl ?_)
          refine O_yy 65 hs rfl rfl (Y_not rfl ?_)
          refine O_y hs (Y_pickT rfl rfl ?_)
          refine O_y hs (Y_move rfl ?_)
          refine O_yy 69 hs rfl rfl (Y_move rfl ?_)
          refine O_yy 69 hs rfl rfl (Y_len Tryd.underlying22 rfl ?_)
          refine O_yy 69 hs rfl rfl (Y_cmpT rfl rfl rfl (rfl) ?_)
          refine O_y hs (Y_pickT rfl rfl ?_)
          refine O_y hs (Y_move rfl ?_)
          refine O_yy 74 hs rfl rfl (Y_move rfl ?_)
          refine O_yy 74 hs rfl rfl (Y_cmpT rfl rfl rfl (by decide) ?_)
          refine O_y hs (Y_pickT rfl rfl ?_)
          refine O_y hs (Y_move rfl ?_)
          refine O_yy 78 hs rfl rfl (Y_fieldAddr FO37_1 rfl (m := 1) rfl ?_)
          refine O_yy 78 hs rfl rfl (Y_ld 0 Tryd.isAgg33 rfl rfl rfl ?_)
          refine O_yy 78 hs rfl rfl (Y_len Tryd.underlying33 rfl ?_)
          refine O_yy 78 hs rfl rfl (Y_cmpT rfl rfl rfl (by decide) ?_)
          refine O_y hs (Y_pickT rfl rfl ?_)
          refine O_y hs (Y_assign rfl ?_)
          refine O_nil (T_sub [(6, _)] ⟨rfl, trivial⟩ ?_)
          refine T_ret ?_
          refine Rt_fin (vs := [_]) Tryd.results5 rfl ⟨rfl, trivial⟩ ?_
          try dsimp only [tup]
          exact ⟨_, [], hs.done, rfl, rfl⟩

end Go.Proofs.YtffbfibpfnlfeaaDoor
