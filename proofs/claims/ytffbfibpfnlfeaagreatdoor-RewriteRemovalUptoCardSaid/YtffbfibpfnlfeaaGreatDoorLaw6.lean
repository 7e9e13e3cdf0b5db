import Derived.Test.YtffbfibpfnlfeaaGreatDoorPlain2
import Derived.Test.YtffbfibpfnlfeaaGreatDoorExWalks5
import Derived.Test.YtffbfibpfnlfeaaGreatDoorProg
import Derived.Test.YtffbfibpfnlfeaaGreatDoorPlain
import Derived.Test.YtffbfibpfnlfeaaGreatDoorShelf
namespace Go.Proofs.YtffbfibpfnlfeaaGreatDoor
open Go Go.Ex Go.RowKit





set_option maxHeartbeats 1000000 in
set_option maxRecDepth 10000 in
theorem lawRemoval {G : Ghost} {v vb : Value} {b : List UInt8} {cl : List Nat} {o : OpV} (ho : OpR G v o) (_hx : -9223372036854775808 ≤ o.kind ∧ o.kind ≤ 9223372036854775807) (hol : o.old.length ≤ 10000000) (hnl : o.new.length ≤ 10000000) (hb : Bytes G vb b) (hl : b.length ≤ 10000000) (hc : cl.length = 4) (hT : Tab G) (hm : MaxL G) :
    FnOk Tryz.prog 6 [v, vb, ClsV cl] G [] fun r _ H' => H' = [] ∧ r = .bool true := by
  obtain ⟨u1, u2, rfl, ho1, ho2⟩ := ho
  obtain ⟨A1, c1, rfl, _⟩ := id ho1
  obtain ⟨A2, c2, rfl, _⟩ := id ho2
  obtain ⟨A, cap, rfl, _⟩ := id hb
  obtain ⟨c, F, hFN, hF7⟩ := made_drop o.old o.new
  obtain ⟨pr, su, hsp, hpre, hsuf⟩ := trim_split cl b
  have htl := trim_len cl b
  have hsl := sqF_len c false b
  refine FnOk.of_T [(0, _), (1, _), (2, _)] Tryz.func6 rfl Tryz.ntmps6 (by simp) rfl fun w0 hs => ?_
  have ho10 := ho1
  have ho20 := ho2
  have hb0 := hb
  have hT0 := hT
  have hm0 := hm
  refine T_seq (T_region rfl ?_)
  refine O_s (S_box hs rfl (cs := [_, _, _]) rfl fun b3 _ hs => ?_)
  refine O_s (S_box hs rfl (cs := (List.map u64V cl)) rfl fun b5 _ hs => ?_)
  refine O_y hs (Y_assign rfl ?_)
  refine O_nil (T_sub [(1, _), (3, _), (5, _)] ⟨rfl, rfl, rfl, trivial⟩ ?_)
  refine T_seq (T_region rfl ?_)
  refine O_s (S_call (H1 := []) hs rfl Tryz.func8 rfl (by kernel_rfl) (sanity_ok hT hm) fun v1 G' H' _ hR hG21 hs => ?_)
  obtain ⟨rfl, rfl⟩ := hR
  replace hs : St _ _ [_, _] _ := hs
  replace ho1 := ho1.mono hG21
  replace ho2 := ho2.mono hG21
  replace hb := hb.mono hG21
  replace hT := hT.mono hG21
  replace hm := hm.mono hG21
  refine O_y hs (Y_assign rfl ?_)
  refine O_nil (T_sub [(1, _), (3, _), (5, _), (7, _)] ⟨rfl, rfl, rfl, rfl, trivial⟩ ?_)
  refine T_seq (T_region rfl ?_)
  refine O_y hs (Y_fieldAddr FO24_0 rfl (m := 0) rfl ?_)
  have hs := hs.front 1 rfl (H' := [_, _]) rfl
  refine O_n (S_st hs Tryz.sizeOf3 rfl rfl rfl (by simp) (cs' := [_, _, _]) rfl fun _ hs => ?_)
  refine O_nil (T_sub [(1, _), (3, _), (5, _), (7, _)] ⟨rfl, rfl, rfl, rfl, trivial⟩ ?_)
  refine T_seq (T_region rfl ?_)
  refine O_y hs (Y_ldA 0 Tryz.isAgg24 Tryz.sizeOf24 rfl rfl (vs := [_, _, _]) rfl rfl ?_)
  refine O_s (S_call (H1 := []) hs rfl Tryz.func9 rfl (by kernel_rfl) (made_ok (o := ⟨6, o.old, o.new⟩) ⟨_, _, rfl, ho1, ho2⟩ hol hnl) fun v2 G' H' _ hR hG24 hs => ?_)
  obtain ⟨rfl, hmo⟩ := hR
  replace hs : St _ _ [_, _] _ := hs
  replace ho1 := ho1.mono hG24
  replace ho2 := ho2.mono hG24
  replace hb := hb.mono hG24
  replace hT := hT.mono hG24
  replace hm := hm.mono hG24
  rw [hFN] at hmo
  obtain ⟨w1, w2, hve, hp1, hp2⟩ := id hmo
  replace hve : _ = Value.agg #[.int .i64 7, w1, w2] := hve
  replace hp1 : Bytes _ w1 (c :: F) := hp1
  replace hp2 : Bytes _ w2 ([] : List UInt8) := hp2
  subst hve
  obtain ⟨A5, c5, rfl, _⟩ := id hp1
  obtain ⟨A6, c6, rfl, _⟩ := id hp2
  refine O_s (S_alloc hs Tryz.zeroValue24 (cs := [_, _, _]) rfl fun b8 _ hs => ?_)
  refine O_n (S_stA hs Tryz.sizeOf24 rfl rfl (vs := [_, _, _]) rfl (rfl) (by simp) (cs' := [_, _, _]) rfl fun _ hs => ?_)
  refine O_nil (T_sub [(1, _), (5, _), (7, _), (8, _)] ⟨rfl, rfl, rfl, rfl, trivial⟩ ?_)
  refine T_seq (T_region rfl ?_)
  refine O_y hs (Y_ldA 0 Tryz.isAgg24 Tryz.sizeOf24 rfl rfl (vs := [_, _, _]) rfl rfl ?_)
  refine O_y hs (Y_move rfl ?_)
  refine O_s (S_call (H1 := []) hs rfl Tryz.func10 rfl (by kernel_rfl) (do_eq (o := ⟨7, c :: F, []⟩) (some (b.filter fun x => !(c :: F).contains x)) (do7 b (by simp) (by simp only [List.length_cons]; omega)) ⟨_, _, rfl, hp1, hp2⟩ hb (by omega) hm) fun v3 G' H' _ hR hG28 hs => ?_)
  obtain ⟨rfl, u28, rfl, hx⟩ := hR
  replace hs : St _ _ [_, _, _] _ := hs
  replace ho1 := ho1.mono hG28
  replace ho2 := ho2.mono hG28
  replace hb := hb.mono hG28
  replace hT := hT.mono hG28
  replace hm := hm.mono hG28
  replace hp1 := hp1.mono hG28
  replace hp2 := hp2.mono hG28
  replace hx : Bytes _ _ (b.filter fun x => !(c :: F).contains x) := hx
  obtain ⟨A28, c28, rfl, _⟩ := id hx
  refine O_y hs (Y_move rfl ?_)
  refine O_y hs (Y_extract rfl rfl ?_)
  refine O_y hs (Y_extract rfl rfl ?_)
  refine O_y hs (Y_assign rfl ?_)
  refine O_y hs (Y_assign rfl ?_)
  refine O_nil (T_sub [(1, _), (5, _), (7, _), (8, _), (9, _), (10, _)] ⟨rfl, rfl, rfl, rfl, rfl, rfl, trivial⟩ ?_)
  refine T_seq (T_region rfl ?_)
  refine O_s (S_lit hs Tryz.underlying22 Tryz.sizeOf5 Tryz.zeroValue5 rfl rfl (by decide) (by decide) rfl (cs := []) rfl rfl fun v4 _ hs _ => ?_)
  refine O_y hs (Y_assign rfl ?_)
  refine O_nil (T_sub [(1, _), (5, _), (7, _), (8, _), (9, _), (10, _), (11, _)] ⟨rfl, rfl, rfl, rfl, rfl, rfl, rfl, trivial⟩ ?_)
  refine T_seq (T_seq (T_region rfl ?_))
  refine O_y hs (Y_assign rfl ?_)
  refine O_nil (T_sub [(1, _), (5, _), (7, _), (8, _), (9, _), (10, _), (11, _), (12, _)] ⟨rfl, rfl, rfl, rfl, rfl, rfl, rfl, rfl, trivial⟩ ?_)
  refine T_block (T_loop (fun m E w => ∃ (i : Nat) (v11 : Value) (G' : Ghost), i ≤ b.length ∧ m = b.length - i ∧ Bytes G' (.slice A5 (c :: F).length c5) (c :: F) ∧ Bytes G' (.slice A6 ([] : List UInt8).length c6) [] ∧ Bytes G' (.slice A28 (b.filter fun x => !(c :: F).contains x).length c28) (b.filter fun x => !(c :: F).contains x) ∧ E = ⟨[], [(1, (.slice A b.length cap)), (5, .pointer (some ⟨b5, 0, none⟩)), (7, .bool true), (8, .pointer (some ⟨b8, 0, none⟩)), (9, .slice A28 (b.filter fun x => !(c :: F).contains x).length c28), (10, .bool true), (11, v11), (12, .int .i64 (i : Int))]⟩ ∧ St ⟨w0, G, feet []⟩ G' [.row 5 1 v11 ((b.take i).filter fun x => !(c :: F).contains x).length (((b.take i).filter fun x => !(c :: F).contains x).map byteV), .blk b8 24 [.int .i64 7, .slice A5 (c :: F).length c5, .slice A6 ([] : List UInt8).length c6], .blk b3 24 [.int .i64 6, .slice A1 o.old.length c1, .slice A2 o.new.length c2], .blk b5 27 (List.map u64V cl)] w) (L := [(1, _), (5, _), (7, _), (8, _), (9, _), (10, _), (11, _), (12, _)]) ⟨rfl, rfl, rfl, rfl, rfl, rfl, rfl, rfl, trivial⟩ (⟨0, _, _, by omega, rfl, hp1, hp2, hx, rfl, hs⟩) fun m E w hI => ?_)
  obtain ⟨i, v11, G', hi, rfl, hp1, hp2, hx, rfl, hs⟩ := hI
  have hb := hb0.mono hs.le
  have hT := hT0.mono hs.le
  have hm := hm0.mono hs.le
  have hgl : ((b.take i).filter fun x => !(c :: F).contains x).length ≤ i := Nat.le_trans (List.length_filter_le _ _) (by rw [List.length_take]; omega)
  refine T_seq (T_seq (T_region rfl ?_))
  refine O_y hs (Y_move rfl ?_)
  refine O_y hs (Y_move rfl ?_)
  refine O_y hs (Y_len Tryz.underlying22 rfl ?_)
  refine O_y hs (Y_cmpS rfl rfl rfl (fun h35 => ?_) (fun h35 => ?_))
  · -- h35: True
    dsimp only [cmpP] at h35
    refine O_nil (T_sub [(1, _), (5, _), (7, _), (8, _), (9, _), (10, _), (11, _), (12, _), (35, _)] ⟨rfl, rfl, rfl, rfl, rfl, rfl, rfl, rfl, rfl, trivial⟩ ?_)
    refine T_condT rfl (T_skip ?_)
    refine T_seq (T_block (T_seq (T_drawS [0, 1, 2, 3, 4, 5, 6, 7] hs (by kernel_rfl) ?_)))
    replace hs := hs.drew
    refine A_take 0 rfl (by kernel_rfl) rfl hs (Y_fieldAddr FO24_1 rfl (m := 1) rfl ?_)
    refine A_take 1 rfl (by kernel_rfl) rfl hs (Y_ld 1 Tryz.isAgg22 rfl rfl rfl ?_)
    refine A_take 2 rfl (by kernel_rfl) rfl hs (Y_move rfl ?_)
    refine A_take 3 rfl (by kernel_rfl) rfl hs (Y_move rfl ?_)
    refine A_take 4 rfl (by kernel_rfl) rfl hs (Y_idxB hb i Tryz.underlying22 Tryz.sizeOf5 rfl rfl rfl (by omega) fun p42 hp42 => ?_)
    refine A_take 5 rfl (by kernel_rfl) rfl hs (Y_ldG Tryz.isAgg5 rfl (hp42) ?_)
    have hle := hs.le
    refine A_only 6 rfl (by kernel_rfl) rfl (S_call (H1 := []) hs rfl Tryz.func23 rfl (by kernel_rfl) (occurs_ok (x := (b[i]'(by omega))) hp1 (by simp only [List.length_cons]; omega)) fun v5 G' H' _ hR hG44 hs => ?_)
    obtain ⟨rfl, rfl⟩ := hR
    replace hs : St _ _ [_, _, _, _] _ := hs
    replace hb := hb.mono hG44
    replace hT := hT.mono hG44
    replace hm := hm.mono hG44
    replace hp1 := hp1.mono hG44
    replace hp2 := hp2.mono hG44
    replace hx := hx.mono hG44
    cases hq : (c :: F).contains (b[i]'(by omega))
    · -- hq: False
      refine A_moreS hs hle hG44 (List.Sublist.refl _) ?_
      refine A_take 7 rfl (by kernel_rfl) rfl hs (Y_not rfl ?_)
      refine A_done (by kernel_rfl) (T_sub [(1, _), (5, _), (7, _), (8, _), (9, _), (10, _), (11, _), (12, _), (45, _)] ⟨rfl, rfl, rfl, rfl, rfl, rfl, rfl, rfl, rfl, trivial⟩ ?_)
      refine T_condT rfl (T_region rfl ?_)
      refine O_y hs (Y_move rfl ?_)
      refine O_y hs (Y_move rfl ?_)
      refine O_y hs (Y_move rfl ?_)
      refine O_y hs (Y_idxB hb i Tryz.underlying22 Tryz.sizeOf5 rfl rfl rfl (by omega) fun p49 hp49 => ?_)
      refine O_y hs (Y_ldG Tryz.isAgg5 rfl (hp49) ?_)
      refine O_s (S_lit hs Tryz.underlying22 Tryz.sizeOf5 Tryz.zeroValue5 rfl rfl (by decide) (by decide) rfl (cs := [_]) rfl rfl fun v6 _ hs _ => ?_)
      obtain ⟨_, hG51, hl51, hs⟩ := hs.fixRow noM
      replace hb := hb.mono hG51
      replace hT := hT.mono hG51
      replace hm := hm.mono hG51
      replace hp1 := hp1.mono hG51
      replace hp2 := hp2.mono hG51
      replace hx := hx.mono hG51
      refine O_s (S_append hs Tryz.underlying22 TI5 rfl (by decide) rfl rfl (hl51) (one1 rfl) (by omega) (by omega) fun v7 _ hs => ?_)
      refine O_y hs (Y_assign rfl ?_)
      refine O_nil (T_sub [(1, _), (5, _), (7, _), (8, _), (9, _), (10, _), (11, _), (12, _)] ⟨rfl, rfl, rfl, rfl, rfl, rfl, rfl, rfl, trivial⟩ ?_)
      refine T_region rfl ?_
      refine O_y hs (Y_move rfl ?_)
      refine O_y hs (Y_add (c := ((i + 1 : Nat) : Int)) rfl rfl (by omega) (by omega) ?_)
      refine O_y hs (Y_assign rfl ?_)
      refine O_nil ⟨_, ?_, [(1, _), (5, _), (7, _), (8, _), (9, _), (10, _), (11, _), (12, _)], ⟨rfl, rfl, rfl, rfl, rfl, rfl, rfl, rfl, trivial⟩, ⟨i + 1, _, _, by omega, rfl, hp1, hp2, hx, rfl, by rw [drop_take_f (c :: F) b i (by omega) hq, List.length_append, List.map_append]; exact hs⟩⟩
      omega
    · -- hq: True
      refine A_moreS hs hle hG44 (List.Sublist.refl _) ?_
      refine A_take 7 rfl (by kernel_rfl) rfl hs (Y_not rfl ?_)
      refine A_done (by kernel_rfl) (T_sub [(1, _), (5, _), (7, _), (8, _), (9, _), (10, _), (11, _), (12, _), (45, _)] ⟨rfl, rfl, rfl, rfl, rfl, rfl, rfl, rfl, rfl, trivial⟩ ?_)
      refine T_condF rfl (T_skip ?_)
      refine T_region rfl ?_
      refine O_y hs (Y_move rfl ?_)
      refine O_y hs (Y_add (c := ((i + 1 : Nat) : Int)) rfl rfl (by omega) (by omega) ?_)
      refine O_y hs (Y_assign rfl ?_)
      refine O_nil ⟨_, ?_, [(1, _), (5, _), (7, _), (8, _), (9, _), (10, _), (11, _), (12, _)], ⟨rfl, rfl, rfl, rfl, rfl, rfl, rfl, rfl, trivial⟩, ⟨i + 1, _, _, by omega, rfl, hp1, hp2, hx, rfl, by rw [drop_take_t (c :: F) b i (by omega) hq]; exact hs⟩⟩
      omega
  · -- h35: False
    dsimp only [cmpP] at h35
    refine O_nil (T_sub [(1, _), (5, _), (7, _), (8, _), (9, _), (10, _), (11, _), (12, _), (35, _)] ⟨rfl, rfl, rfl, rfl, rfl, rfl, rfl, rfl, rfl, trivial⟩ ?_)
    refine T_condF rfl (T_exit ?_)
    obtain rfl : i = b.length := by omega
    rw [List.take_length] at hs
    obtain ⟨_, hGz, hlf, hsz⟩ := hs.fixRow noM
    clear hs
    replace hb := hb.mono hGz
    replace hT := hT.mono hGz
    replace hm := hm.mono hGz
    replace hp1 := hp1.mono hGz
    replace hp2 := hp2.mono hGz
    replace hx := hx.mono hGz
    replace hlf : Bytes _ _ (b.filter fun x => !(c :: F).contains x) := hlf
    obtain ⟨A11, c11, rfl, _⟩ := id hlf
    have hs := hsz
    refine T_seq (T_region rfl ?_)
    refine O_y hs (Y_fieldAddr FO24_1 rfl (m := 1) rfl ?_)
    refine O_y hs (Y_ld 0 Tryz.isAgg22 rfl rfl rfl ?_)
    refine O_y hs (Y_sliceB hp1 0 1 Tryz.underlying22 Tryz.sizeOf5 rfl rfl ⟨_, _, rfl, rfl⟩ (by omega) (by simp) fun s55 hs55 => ?_)
    obtain ⟨A55, c55, rfl, _⟩ := id hs55
    refine O_y hs (Y_build Tryz.zeroValue24 rfl PL24 rfl (cs := [_, _, _]) rfl ?_)
    refine O_s (S_alloc hs Tryz.zeroValue24 (cs := [_, _, _]) rfl fun b13 _ hs => ?_)
    refine O_n (S_stA hs Tryz.sizeOf24 rfl rfl (vs := [_, _, _]) rfl (rfl) (by simp) (cs' := [_, _, _]) rfl fun _ hs => ?_)
    refine O_nil (T_sub [(1, _), (5, _), (7, _), (8, _), (9, _), (10, _), (11, _), (13, _)] ⟨rfl, rfl, rfl, rfl, rfl, rfl, rfl, rfl, trivial⟩ ?_)
    refine T_seq (T_region rfl ?_)
    refine O_y hs (Y_ldA 0 Tryz.isAgg24 Tryz.sizeOf24 rfl rfl (vs := [_, _, _]) rfl rfl ?_)
    refine O_y hs (Y_move rfl ?_)
    refine O_s (S_call (H1 := []) hs rfl Tryz.func10 rfl (by kernel_rfl) (do_eq (o := ⟨8, [c], []⟩) (some (sqF c false b)) (do8 b) ⟨_, _, rfl, hs55, Sl.nil _ _⟩ hb (by omega) hm) fun v8 G' H' _ hR hG60 hs => ?_)
    obtain ⟨rfl, u60, rfl, hy⟩ := hR
    replace hs : St _ _ [_, _, _, _] _ := hs
    replace hb := hb.mono hG60
    replace hT := hT.mono hG60
    replace hm := hm.mono hG60
    replace hp1 := hp1.mono hG60
    replace hp2 := hp2.mono hG60
    replace hx := hx.mono hG60
    replace hlf := hlf.mono hG60
    replace hs55 := hs55.mono hG60
    replace hy : Bytes _ _ (sqF c false b) := hy
    obtain ⟨A60, c60, rfl, _⟩ := id hy
    refine O_y hs (Y_move rfl ?_)
    refine O_y hs (Y_extract rfl rfl ?_)
    refine O_y hs (Y_extract rfl rfl ?_)
    refine O_y hs (Y_assign rfl ?_)
    refine O_y hs (Y_assign rfl ?_)
    refine O_nil (T_sub [(1, _), (5, _), (7, _), (8, _), (9, _), (10, _), (11, _), (13, _), (14, _), (15, _)] ⟨rfl, rfl, rfl, rfl, rfl, rfl, rfl, rfl, rfl, rfl, trivial⟩ ?_)
    refine T_seq (T_region rfl ?_)
    refine O_y hs (Y_ldA 0 Tryz.isAgg24 Tryz.sizeOf24 rfl rfl (vs := [_, _, _]) rfl rfl ?_)
    refine O_y hs (Y_move rfl ?_)
    refine O_s (S_call (H1 := []) hs rfl Tryz.func10 rfl (by kernel_rfl) (do_eq (o := ⟨8, [c], []⟩) (some (sqF c false (sqF c false b))) (do8 _) ⟨_, _, rfl, hs55, Sl.nil _ _⟩ hy (by omega) hm) fun v9 G' H' _ hR hG66 hs => ?_)
    obtain ⟨rfl, u66, rfl, ha⟩ := hR
    replace hs : St _ _ [_, _, _, _] _ := hs
    replace hb := hb.mono hG66
    replace hT := hT.mono hG66
    replace hm := hm.mono hG66
    replace hp1 := hp1.mono hG66
    replace hp2 := hp2.mono hG66
    replace hx := hx.mono hG66
    replace hlf := hlf.mono hG66
    replace hs55 := hs55.mono hG66
    replace hy := hy.mono hG66
    replace ha : Bytes _ _ (sqF c false (sqF c false b)) := ha
    obtain ⟨A66, c66, rfl, _⟩ := id ha
    refine O_y hs (Y_move rfl ?_)
    refine O_y hs (Y_extract rfl rfl ?_)
    refine O_y hs (Y_extract rfl rfl ?_)
    refine O_y hs (Y_assign rfl ?_)
    refine O_y hs (Y_assign rfl ?_)
    refine O_nil (T_sub [(1, _), (5, _), (7, _), (8, _), (9, _), (10, _), (11, _), (14, _), (15, _), (16, _), (17, _)] ⟨rfl, rfl, rfl, rfl, rfl, rfl, rfl, rfl, rfl, rfl, rfl, trivial⟩ ?_)
    refine T_seq (T_seq (T_region rfl ?_))
    refine O_y hs (Y_assign rfl ?_)
    refine O_nil (T_sub [(1, _), (5, _), (7, _), (8, _), (9, _), (10, _), (11, _), (14, _), (15, _), (16, _), (17, _), (18, _)] ⟨rfl, rfl, rfl, rfl, rfl, rfl, rfl, rfl, rfl, rfl, rfl, rfl, trivial⟩ ?_)
    refine T_block (T_loop (fun m E w => ∃ (j : Nat) (G' : Ghost), j ≤ (sqF c false b).length ∧ m = (sqF c false b).length - j ∧ Bytes G' (.slice A5 (c :: F).length c5) (c :: F) ∧ Bytes G' (.slice A28 (b.filter fun x => !(c :: F).contains x).length c28) (b.filter fun x => !(c :: F).contains x) ∧ Bytes G' (.slice A11 (b.filter fun x => !(c :: F).contains x).length c11) (b.filter fun x => !(c :: F).contains x) ∧ Bytes G' (.slice A60 (sqF c false b).length c60) (sqF c false b) ∧ Bytes G' (.slice A66 (sqF c false (sqF c false b)).length c66) (sqF c false (sqF c false b)) ∧ E = ⟨[], [(1, (.slice A b.length cap)), (5, .pointer (some ⟨b5, 0, none⟩)), (7, .bool true), (8, .pointer (some ⟨b8, 0, none⟩)), (9, .slice A28 (b.filter fun x => !(c :: F).contains x).length c28), (10, .bool true), (11, (.slice A11 (b.filter fun x => !(c :: F).contains x).length c11)), (14, .slice A60 (sqF c false b).length c60), (15, .bool true), (16, .slice A66 (sqF c false (sqF c false b)).length c66), (17, .bool true), (18, .int .i64 (j : Int))]⟩ ∧ St ⟨w0, G, feet []⟩ G' [.blk b13 24 [.int .i64 8, .slice A55 (List.take (1 - 0) (List.drop 0 (c :: F))).length c55, .slice none 0 0], .blk b8 24 [.int .i64 7, .slice A5 (c :: F).length c5, .slice A6 ([] : List UInt8).length c6], .blk b3 24 [.int .i64 6, .slice A1 o.old.length c1, .slice A2 o.new.length c2], .blk b5 27 (List.map u64V cl)] w) (L := [(1, _), (5, _), (7, _), (8, _), (9, _), (10, _), (11, _), (14, _), (15, _), (16, _), (17, _), (18, _)]) ⟨rfl, rfl, rfl, rfl, rfl, rfl, rfl, rfl, rfl, rfl, rfl, rfl, trivial⟩ (⟨0, _, by omega, rfl, hp1, hx, hlf, hy, ha, rfl, hs⟩) fun m E w hI => ?_)
    obtain ⟨j, G', hj, rfl, hp1, hx, hlf, hy, ha, rfl, hs⟩ := hI
    have hb := hb0.mono hs.le
    have hT := hT0.mono hs.le
    have hm := hm0.mono hs.le
    refine T_seq (T_seq (T_region rfl ?_))
    refine O_y hs (Y_move rfl ?_)
    refine O_y hs (Y_add (c := ((j + 1 : Nat) : Int)) rfl rfl (by omega) (by omega) ?_)
    refine O_y hs (Y_move rfl ?_)
    refine O_y hs (Y_len Tryz.underlying22 rfl ?_)
    refine O_y hs (Y_cmpS rfl rfl rfl (fun h73 => ?_) (fun h73 => ?_))
    · -- h73: True
      dsimp only [cmpP] at h73
      refine O_nil (T_sub [(1, _), (5, _), (7, _), (8, _), (9, _), (10, _), (11, _), (14, _), (15, _), (16, _), (17, _), (18, _), (73, _)] ⟨rfl, rfl, rfl, rfl, rfl, rfl, rfl, rfl, rfl, rfl, rfl, rfl, rfl, trivial⟩ ?_)
      refine T_condT rfl (T_skip ?_)
      refine T_seq (T_block (T_seq (T_drawS [0, 1, 2, 3, 4, 5, 6, 7, 8, 9, 10, 11, 12, 13, 14, 15, 16, 17, 18, 19, 20] hs (by kernel_rfl) ?_)))
      replace hs := hs.drew
      refine A_take 0 rfl (by kernel_rfl) rfl hs (Y_move rfl ?_)
      refine A_take 1 rfl (by kernel_rfl) rfl hs (Y_move rfl ?_)
      refine A_take 2 rfl (by kernel_rfl) rfl hs (Y_idxB hy j Tryz.underlying22 Tryz.sizeOf5 rfl rfl rfl (by omega) fun p78 hp78 => ?_)
      refine A_take 3 rfl (by kernel_rfl) rfl hs (Y_ldG Tryz.isAgg5 rfl (hp78) ?_)
      refine A_take 4 rfl (by kernel_rfl) rfl hs (Y_fieldAddr FO24_1 rfl (m := 1) rfl ?_)
      refine A_take 5 rfl (by kernel_rfl) rfl hs (Y_ld 1 Tryz.isAgg22 rfl rfl rfl ?_)
      refine A_take 6 rfl (by kernel_rfl) rfl hs (Y_idxB hp1 0 Tryz.underlying22 Tryz.sizeOf5 rfl rfl rfl (by simp) fun p82 hp82 => ?_)
      refine A_take 7 rfl (by kernel_rfl) rfl hs (Y_ldG Tryz.isAgg5 rfl (hp82) ?_)
      refine A_take 8 rfl (by kernel_rfl) rfl hs (Y_cmpS rfl rfl rfl (fun h84 => ?_) (fun h84 => ?_))
      · -- h84: True
        dsimp only [cmpP] at h84
        refine A_take 9 rfl (by kernel_rfl) rfl hs (Y_move rfl ?_)
        refine A_take 10 rfl (by kernel_rfl) rfl hs (Y_move rfl ?_)
        refine A_take 11 rfl (by kernel_rfl) rfl hs (Y_move rfl ?_)
        refine A_take 12 rfl (by kernel_rfl) rfl hs (Y_add (c := ((j + 1 : Nat) : Int)) rfl rfl (by omega) (by omega) ?_)
        refine A_take 13 rfl (by kernel_rfl) rfl hs (Y_idxB hy (j + 1) Tryz.underlying22 Tryz.sizeOf5 rfl rfl rfl (by omega) fun p89 hp89 => ?_)
        refine A_take 14 rfl (by kernel_rfl) rfl hs (Y_ldG Tryz.isAgg5 rfl (hp89) ?_)
        refine A_take 15 rfl (by kernel_rfl) rfl hs (Y_fieldAddr FO24_1 rfl (m := 1) rfl ?_)
        refine A_take 16 rfl (by kernel_rfl) rfl hs (Y_ld 1 Tryz.isAgg22 rfl rfl rfl ?_)
        refine A_take 17 rfl (by kernel_rfl) rfl hs (Y_idxB hp1 0 Tryz.underlying22 Tryz.sizeOf5 rfl rfl rfl (by simp) fun p93 hp93 => ?_)
        refine A_take 18 rfl (by kernel_rfl) rfl hs (Y_ldG Tryz.isAgg5 rfl (hp93) ?_)
        refine A_take 19 rfl (by kernel_rfl) rfl hs (Y_cmpF rfl rfl rfl (fun h => sqF_two c false b j (by rw [List.getElem?_eq_getElem (by omega)]; exact congrArg some (u8i h84)) (by rw [List.getElem?_eq_getElem (by omega)]; exact congrArg some (u8i h))) ?_)
        refine A_take 20 rfl (by kernel_rfl) rfl hs (Y_pickT rfl rfl ?_)
        refine A_done (by kernel_rfl) (T_sub [(1, _), (5, _), (7, _), (8, _), (9, _), (10, _), (11, _), (14, _), (15, _), (16, _), (17, _), (18, _), (96, _)] ⟨rfl, rfl, rfl, rfl, rfl, rfl, rfl, rfl, rfl, rfl, rfl, rfl, rfl, trivial⟩ ?_)
        refine T_condF rfl (T_skip ?_)
        refine T_region rfl ?_
        refine O_y hs (Y_move rfl ?_)
        refine O_y hs (Y_add (c := ((j + 1 : Nat) : Int)) rfl rfl (by omega) (by omega) ?_)
        refine O_y hs (Y_assign rfl ?_)
        refine O_nil ⟨_, ?_, [(1, _), (5, _), (7, _), (8, _), (9, _), (10, _), (11, _), (14, _), (15, _), (16, _), (17, _), (18, _)], ⟨rfl, rfl, rfl, rfl, rfl, rfl, rfl, rfl, rfl, rfl, rfl, rfl, trivial⟩, ⟨j + 1, _, by omega, rfl, hp1, hx, hlf, hy, ha, rfl, hs⟩⟩
        omega
      · -- h84: False
        dsimp only [cmpP] at h84
        refine A_take 9 rfl (by kernel_rfl) rfl hs (Y_move rfl ?_)
        refine A_skip 10 rfl (by kernel_rfl) rfl hs ?_
        refine A_skip 11 rfl (by kernel_rfl) rfl hs ?_
        refine A_skip 12 rfl (by kernel_rfl) rfl hs ?_
        refine A_skip 13 rfl (by kernel_rfl) rfl hs ?_
        refine A_skip 14 rfl (by kernel_rfl) rfl hs ?_
        refine A_skip 15 rfl (by kernel_rfl) rfl hs ?_
        refine A_skip 16 rfl (by kernel_rfl) rfl hs ?_
        refine A_skip 17 rfl (by kernel_rfl) rfl hs ?_
        refine A_skip 18 rfl (by kernel_rfl) rfl hs ?_
        refine A_skip 19 rfl (by kernel_rfl) rfl hs ?_
        refine A_take 20 rfl (by kernel_rfl) rfl hs (Y_pickF rfl rfl ?_)
        refine A_done (by kernel_rfl) (T_sub [(1, _), (5, _), (7, _), (8, _), (9, _), (10, _), (11, _), (14, _), (15, _), (16, _), (17, _), (18, _), (96, _)] ⟨rfl, rfl, rfl, rfl, rfl, rfl, rfl, rfl, rfl, rfl, rfl, rfl, rfl, trivial⟩ ?_)
        refine T_condF rfl (T_skip ?_)
        refine T_region rfl ?_
        refine O_y hs (Y_move rfl ?_)
        refine O_y hs (Y_add (c := ((j + 1 : Nat) : Int)) rfl rfl (by omega) (by omega) ?_)
        refine O_y hs (Y_assign rfl ?_)
        refine O_nil ⟨_, ?_, [(1, _), (5, _), (7, _), (8, _), (9, _), (10, _), (11, _), (14, _), (15, _), (16, _), (17, _), (18, _)], ⟨rfl, rfl, rfl, rfl, rfl, rfl, rfl, rfl, rfl, rfl, rfl, rfl, trivial⟩, ⟨j + 1, _, by omega, rfl, hp1, hx, hlf, hy, ha, rfl, hs⟩⟩
        omega
    · -- h73: False
      dsimp only [cmpP] at h73
      refine O_nil (T_sub [(1, _), (5, _), (7, _), (8, _), (9, _), (10, _), (11, _), (14, _), (15, _), (16, _), (17, _), (18, _), (73, _)] ⟨rfl, rfl, rfl, rfl, rfl, rfl, rfl, rfl, rfl, rfl, rfl, rfl, rfl, trivial⟩ ?_)
      refine T_condF rfl (T_exit ?_)
      refine T_seq (T_region rfl ?_)
      refine O_y hs (Y_ldW 3 Tryz.isAgg27 Tryz.sizeOf27 rfl rfl (by first | omega | (simp; omega) | simp) ?_)
      refine O_y hs (Y_move rfl ?_)
      refine O_s (S_call (H1 := []) hs rfl Tryz.func15 rfl (by kernel_rfl) (trim_ok hc hb (by omega)) fun v10 G' H' _ hR hG99 hs => ?_)
      obtain ⟨rfl, ht⟩ := hR
      obtain ⟨A99, c99, rfl, _⟩ := id ht
      replace hs : St _ _ [_, _, _, _] _ := hs
      replace hb := hb.mono hG99
      replace hT := hT.mono hG99
      replace hm := hm.mono hG99
      replace hp1 := hp1.mono hG99
      replace hx := hx.mono hG99
      replace hlf := hlf.mono hG99
      replace hy := hy.mono hG99
      replace ha := ha.mono hG99
      refine O_y hs (Y_assign rfl ?_)
      refine O_nil (T_sub [(1, _), (5, _), (7, _), (9, _), (10, _), (11, _), (14, _), (15, _), (16, _), (17, _), (19, _)] ⟨rfl, rfl, rfl, rfl, rfl, rfl, rfl, rfl, rfl, rfl, rfl, trivial⟩ ?_)
      refine T_seq (T_drawS [0, 1, 2, 3, 4, 5, 6, 7, 8, 9, 10, 11, 12, 13, 14, 15, 16, 17, 18, 19, 20, 21, 22] hs (by kernel_rfl) ?_)
      replace hs := hs.drew
      refine A_take 0 rfl (by kernel_rfl) rfl hs (Y_move rfl ?_)
      refine A_take 1 rfl (by kernel_rfl) rfl hs (Y_len Tryz.underlying22 rfl ?_)
      refine A_take 2 rfl (by kernel_rfl) rfl hs (Y_cmpS rfl rfl rfl (fun h102 => ?_) (fun h102 => ?_))
      · -- h102: True
        dsimp only [cmpP] at h102
        refine A_take 3 rfl (by kernel_rfl) rfl hs (Y_move rfl ?_)
        refine A_skip 4 rfl (by kernel_rfl) rfl hs ?_
        refine A_skip 5 rfl (by kernel_rfl) rfl hs ?_
        refine A_skip 6 rfl (by kernel_rfl) rfl hs ?_
        refine A_skip 7 rfl (by kernel_rfl) rfl hs ?_
        refine A_skip 8 rfl (by kernel_rfl) rfl hs ?_
        refine A_skip 9 rfl (by kernel_rfl) rfl hs ?_
        refine A_skip 10 rfl (by kernel_rfl) rfl hs ?_
        refine A_skip 11 rfl (by kernel_rfl) rfl hs ?_
        refine A_skip 12 rfl (by kernel_rfl) rfl hs ?_
        refine A_skip 13 rfl (by kernel_rfl) rfl hs ?_
        refine A_skip 14 rfl (by kernel_rfl) rfl hs ?_
        refine A_skip 15 rfl (by kernel_rfl) rfl hs ?_
        refine A_skip 16 rfl (by kernel_rfl) rfl hs ?_
        refine A_skip 17 rfl (by kernel_rfl) rfl hs ?_
        refine A_skip 18 rfl (by kernel_rfl) rfl hs ?_
        refine A_skip 19 rfl (by kernel_rfl) rfl hs ?_
        refine A_skip 20 rfl (by kernel_rfl) rfl hs ?_
        refine A_take 21 rfl (by kernel_rfl) rfl hs (Y_pickT rfl rfl ?_)
        refine A_take 22 rfl (by kernel_rfl) rfl hs (Y_assign rfl ?_)
        refine A_done (by kernel_rfl) (T_sub [(1, _), (5, _), (7, _), (9, _), (10, _), (11, _), (14, _), (15, _), (16, _), (17, _), (19, _), (20, _)] ⟨rfl, rfl, rfl, rfl, rfl, rfl, rfl, rfl, rfl, rfl, rfl, rfl, trivial⟩ ?_)
        refine T_seq (T_region rfl ?_)
        refine O_y hs (Y_move rfl ?_)
        refine O_y hs (Y_move rfl ?_)
        refine O_yy 123 hs rfl rfl (Y_move rfl ?_)
        refine O_y hs (Y_pickT rfl rfl ?_)
        refine O_y hs (Y_move rfl ?_)
        refine O_yy 126 hs rfl rfl (Y_move rfl ?_)
        refine O_y hs (Y_pickT rfl rfl ?_)
        refine O_y hs (Y_move rfl ?_)
        refine O_yy 129 hs rfl rfl (Y_move rfl ?_)
        refine O_y hs (Y_pickT rfl rfl ?_)
        refine O_y hs (Y_move rfl ?_)
        refine O_yy 132 hs rfl rfl (Y_move rfl ?_)
        refine O_yy 132 hs rfl rfl (Y_move rfl ?_)
        refine O_yes 132 rfl rfl (S_call (H1 := []) hs rfl Tryz.func14 rfl (by kernel_rfl) (same_ok hx hlf) fun v11 G' H' _ hR hG135 hs => ?_)
        obtain ⟨rfl, rfl⟩ := hR
        replace hs : St _ _ [_, _, _, _] _ := hs
        replace hb := hb.mono hG135
        replace hT := hT.mono hG135
        replace hm := hm.mono hG135
        replace hp1 := hp1.mono hG135
        replace hx := hx.mono hG135
        replace hlf := hlf.mono hG135
        replace hy := hy.mono hG135
        replace ha := ha.mono hG135
        replace ht := ht.mono hG135
        rw [decide_eq_true (show _ = _ from rfl)]
        refine O_y hs (Y_pickT rfl rfl ?_)
        refine O_y hs (Y_move rfl ?_)
        refine O_yy 137 hs rfl rfl (Y_move rfl ?_)
        refine O_yy 137 hs rfl rfl (Y_move rfl ?_)
        refine O_yes 137 rfl rfl (S_call (H1 := []) hs rfl Tryz.func14 rfl (by kernel_rfl) (same_ok ha hy) fun v12 G' H' _ hR hG140 hs => ?_)
        obtain ⟨rfl, rfl⟩ := hR
        replace hs : St _ _ [_, _, _, _] _ := hs
        replace hb := hb.mono hG140
        replace hT := hT.mono hG140
        replace hm := hm.mono hG140
        replace hp1 := hp1.mono hG140
        replace hx := hx.mono hG140
        replace hlf := hlf.mono hG140
        replace hy := hy.mono hG140
        replace ha := ha.mono hG140
        replace ht := ht.mono hG140
        rw [decide_eq_true (show _ = _ from sqF_sqF c false b)]
        refine O_y hs (Y_pickT rfl rfl ?_)
        refine O_y hs (Y_move rfl ?_)
        refine O_yy 142 hs rfl rfl (Y_move rfl ?_)
        refine O_y hs (Y_pickT rfl rfl ?_)
        refine O_y hs (Y_move rfl ?_)
        refine O_yy 145 hs rfl rfl (Y_ldW 3 Tryz.isAgg27 Tryz.sizeOf27 rfl rfl (by first | omega | (simp; omega) | simp) ?_)
        refine O_yy 145 hs rfl rfl (Y_move rfl ?_)
        refine O_yes 145 rfl rfl (S_call (H1 := []) hs rfl Tryz.func15 rfl (by kernel_rfl) (trim_ok hc ht (by omega)) fun v13 G' H' _ hR hG148 hs => ?_)
        obtain ⟨rfl, htt⟩ := hR
        replace hs : St _ _ [_, _, _, _] _ := hs
        replace hb := hb.mono hG148
        replace hT := hT.mono hG148
        replace hm := hm.mono hG148
        replace hp1 := hp1.mono hG148
        replace hx := hx.mono hG148
        replace hlf := hlf.mono hG148
        replace hy := hy.mono hG148
        replace ha := ha.mono hG148
        replace ht := ht.mono hG148
        refine O_yy 145 hs rfl rfl (Y_move rfl ?_)
        refine O_yes 145 rfl rfl (S_call (H1 := []) hs rfl Tryz.func14 rfl (by kernel_rfl) (same_ok htt ht) fun v14 G' H' _ hR hG150 hs => ?_)
        obtain ⟨rfl, rfl⟩ := hR
        replace hs : St _ _ [_, _, _, _] _ := hs
        replace hb := hb.mono hG150
        replace hT := hT.mono hG150
        replace hm := hm.mono hG150
        replace hp1 := hp1.mono hG150
        replace hx := hx.mono hG150
        replace hlf := hlf.mono hG150
        replace hy := hy.mono hG150
        replace ha := ha.mono hG150
        replace ht := ht.mono hG150
        replace htt := htt.mono hG150
        rw [decide_eq_true (show _ = _ from trim_trim cl b)]
        refine O_y hs (Y_pickT rfl rfl ?_)
        refine O_y hs (Y_move rfl ?_)
        refine O_yy 152 hs rfl rfl (Y_ldW 3 Tryz.isAgg27 Tryz.sizeOf27 rfl rfl (by first | omega | (simp; omega) | simp) ?_)
        refine O_yy 152 hs rfl rfl (Y_move rfl ?_)
        refine O_yy 152 hs rfl rfl (Y_move rfl ?_)
        refine O_yes 152 rfl rfl (S_call (H1 := []) hs rfl Tryz.func25 rfl (by kernel_rfl) (between_ok hc hb ht (by omega) hsp hpre hsuf) fun v15 G' H' _ hR hG156 hs => ?_)
        obtain ⟨rfl, rfl⟩ := hR
        replace hs : St _ _ [_, _, _, _] _ := hs
        replace hb := hb.mono hG156
        replace hT := hT.mono hG156
        replace hm := hm.mono hG156
        replace hp1 := hp1.mono hG156
        replace hx := hx.mono hG156
        replace hlf := hlf.mono hG156
        replace hy := hy.mono hG156
        replace ha := ha.mono hG156
        replace ht := ht.mono hG156
        replace htt := htt.mono hG156
        refine O_y hs (Y_pickT rfl rfl ?_)
        refine O_y hs (Y_assign rfl ?_)
        refine O_nil (T_sub [(6, _)] ⟨rfl, trivial⟩ ?_)
        refine T_ret ?_
        refine Rt_fin (vs := [_]) Tryz.results6 rfl ⟨rfl, trivial⟩ ?_
        try dsimp only [tup]
        exact ⟨_, [], hs.done, rfl, rfl⟩
      · -- h102: False
        dsimp only [cmpP] at h102
        refine A_take 3 rfl (by kernel_rfl) rfl hs (Y_move rfl ?_)
        refine A_take 4 rfl (by kernel_rfl) rfl hs (Y_ldW 3 Tryz.isAgg27 Tryz.sizeOf27 rfl rfl (by first | omega | (simp; omega) | simp) ?_)
        refine A_take 5 rfl (by kernel_rfl) rfl hs (Y_move rfl ?_)
        refine A_take 6 rfl (by kernel_rfl) rfl hs (Y_idxB ht 0 Tryz.underlying22 Tryz.sizeOf5 rfl rfl rfl (by omega) fun p106 hp106 => ?_)
        refine A_take 7 rfl (by kernel_rfl) rfl hs (Y_ldG Tryz.isAgg5 rfl (hp106) ?_)
        have hle := hs.le
        refine A_only 8 rfl (by kernel_rfl) rfl (S_call (H1 := []) hs rfl Tryz.func24 rfl (by kernel_rfl) (member_ok (x := (trimF cl b)[0]'(by omega)) hc) fun v16 G' H' _ hR hG108 hs => ?_)
        obtain ⟨rfl, rfl⟩ := hR
        replace hs : St _ _ [_, _, _, _] _ := hs
        replace hb := hb.mono hG108
        replace hT := hT.mono hG108
        replace hm := hm.mono hG108
        replace hp1 := hp1.mono hG108
        replace hx := hx.mono hG108
        replace hlf := hlf.mono hG108
        replace hy := hy.mono hG108
        replace ha := ha.mono hG108
        replace ht := ht.mono hG108
        rw [trim_at0 (by omega)]
        refine A_moreS hs hle hG108 (List.Sublist.refl _) ?_
        refine A_take 9 rfl (by kernel_rfl) rfl hs (Y_not rfl ?_)
        refine A_take 10 rfl (by kernel_rfl) rfl hs (Y_move rfl ?_)
        refine A_take 11 rfl (by kernel_rfl) rfl hs (Y_ldW 3 Tryz.isAgg27 Tryz.sizeOf27 rfl rfl (by first | omega | (simp; omega) | simp) ?_)
        refine A_take 12 rfl (by kernel_rfl) rfl hs (Y_move rfl ?_)
        refine A_take 13 rfl (by kernel_rfl) rfl hs (Y_move rfl ?_)
        refine A_take 14 rfl (by kernel_rfl) rfl hs (Y_len Tryz.underlying22 rfl ?_)
        refine A_take 15 rfl (by kernel_rfl) rfl hs (Y_sub (c := (((trimF cl b).length - 1 : Nat) : Int)) rfl rfl (by omega) (by omega) ?_)
        refine A_take 16 rfl (by kernel_rfl) rfl hs (Y_idxB ht ((trimF cl b).length - 1) Tryz.underlying22 Tryz.sizeOf5 rfl rfl rfl (by omega) fun p116 hp116 => ?_)
        refine A_take 17 rfl (by kernel_rfl) rfl hs (Y_ldG Tryz.isAgg5 rfl (hp116) ?_)
        have hle := hs.le
        refine A_only 18 rfl (by kernel_rfl) rfl (S_call (H1 := []) hs rfl Tryz.func24 rfl (by kernel_rfl) (member_ok (x := (trimF cl b)[(trimF cl b).length - 1]'(by omega)) hc) fun v17 G' H' _ hR hG118 hs => ?_)
        obtain ⟨rfl, rfl⟩ := hR
        replace hs : St _ _ [_, _, _, _] _ := hs
        replace hb := hb.mono hG118
        replace hT := hT.mono hG118
        replace hm := hm.mono hG118
        replace hp1 := hp1.mono hG118
        replace hx := hx.mono hG118
        replace hlf := hlf.mono hG118
        replace hy := hy.mono hG118
        replace ha := ha.mono hG118
        replace ht := ht.mono hG118
        rw [trim_atl (by omega)]
        refine A_moreS hs hle hG118 (List.Sublist.refl _) ?_
        refine A_take 19 rfl (by kernel_rfl) rfl hs (Y_not rfl ?_)
        refine A_take 20 rfl (by kernel_rfl) rfl hs (Y_pickT rfl rfl ?_)
        refine A_take 21 rfl (by kernel_rfl) rfl hs (Y_pickF rfl rfl ?_)
        refine A_take 22 rfl (by kernel_rfl) rfl hs (Y_assign rfl ?_)
        refine A_done (by kernel_rfl) (T_sub [(1, _), (5, _), (7, _), (9, _), (10, _), (11, _), (14, _), (15, _), (16, _), (17, _), (19, _), (20, _)] ⟨rfl, rfl, rfl, rfl, rfl, rfl, rfl, rfl, rfl, rfl, rfl, rfl, trivial⟩ ?_)
        refine T_seq (T_region rfl ?_)
        refine O_y hs (Y_move rfl ?_)
        refine O_y hs (Y_move rfl ?_)
        refine O_yy 123 hs rfl rfl (Y_move rfl ?_)
        refine O_y hs (Y_pickT rfl rfl ?_)
        refine O_y hs (Y_move rfl ?_)
        refine O_yy 126 hs rfl rfl (Y_move rfl ?_)
        refine O_y hs (Y_pickT rfl rfl ?_)
        refine O_y hs (Y_move rfl ?_)
        refine O_yy 129 hs rfl rfl (Y_move rfl ?_)
        refine O_y hs (Y_pickT rfl rfl ?_)
        refine O_y hs (Y_move rfl ?_)
        refine O_yy 132 hs rfl rfl (Y_move rfl ?_)
        refine O_yy 132 hs rfl rfl (Y_move rfl ?_)
        refine O_yes 132 rfl rfl (S_call (H1 := []) hs rfl Tryz.func14 rfl (by kernel_rfl) (same_ok hx hlf) fun v18 G' H' _ hR hG135 hs => ?_)
        obtain ⟨rfl, rfl⟩ := hR
        replace hs : St _ _ [_, _, _, _] _ := hs
        replace hb := hb.mono hG135
        replace hT := hT.mono hG135
        replace hm := hm.mono hG135
        replace hp1 := hp1.mono hG135
        replace hx := hx.mono hG135
        replace hlf := hlf.mono hG135
        replace hy := hy.mono hG135
        replace ha := ha.mono hG135
        replace ht := ht.mono hG135
        rw [decide_eq_true (show _ = _ from rfl)]
        refine O_y hs (Y_pickT rfl rfl ?_)
        refine O_y hs (Y_move rfl ?_)
        refine O_yy 137 hs rfl rfl (Y_move rfl ?_)
        refine O_yy 137 hs rfl rfl (Y_move rfl ?_)
        refine O_yes 137 rfl rfl (S_call (H1 := []) hs rfl Tryz.func14 rfl (by kernel_rfl) (same_ok ha hy) fun v19 G' H' _ hR hG140 hs => ?_)
        obtain ⟨rfl, rfl⟩ := hR
        replace hs : St _ _ [_, _, _, _] _ := hs
        replace hb := hb.mono hG140
        replace hT := hT.mono hG140
        replace hm := hm.mono hG140
        replace hp1 := hp1.mono hG140
        replace hx := hx.mono hG140
        replace hlf := hlf.mono hG140
        replace hy := hy.mono hG140
        replace ha := ha.mono hG140
        replace ht := ht.mono hG140
        rw [decide_eq_true (show _ = _ from sqF_sqF c false b)]
        refine O_y hs (Y_pickT rfl rfl ?_)
        refine O_y hs (Y_move rfl ?_)
        refine O_yy 142 hs rfl rfl (Y_move rfl ?_)
        refine O_y hs (Y_pickT rfl rfl ?_)
        refine O_y hs (Y_move rfl ?_)
        refine O_yy 145 hs rfl rfl (Y_ldW 3 Tryz.isAgg27 Tryz.sizeOf27 rfl rfl (by first | omega | (simp; omega) | simp) ?_)
        refine O_yy 145 hs rfl rfl (Y_move rfl ?_)
        refine O_yes 145 rfl rfl (S_call (H1 := []) hs rfl Tryz.func15 rfl (by kernel_rfl) (trim_ok hc ht (by omega)) fun v20 G' H' _ hR hG148 hs => ?_)
        obtain ⟨rfl, htt⟩ := hR
        replace hs : St _ _ [_, _, _, _] _ := hs
        replace hb := hb.mono hG148
        replace hT := hT.mono hG148
        replace hm := hm.mono hG148
        replace hp1 := hp1.mono hG148
        replace hx := hx.mono hG148
        replace hlf := hlf.mono hG148
        replace hy := hy.mono hG148
        replace ha := ha.mono hG148
        replace ht := ht.mono hG148
        refine O_yy 145 hs rfl rfl (Y_move rfl ?_)
        refine O_yes 145 rfl rfl (S_call (H1 := []) hs rfl Tryz.func14 rfl (by kernel_rfl) (same_ok htt ht) fun v21 G' H' _ hR hG150 hs => ?_)
        obtain ⟨rfl, rfl⟩ := hR
        replace hs : St _ _ [_, _, _, _] _ := hs
        replace hb := hb.mono hG150
        replace hT := hT.mono hG150
        replace hm := hm.mono hG150
        replace hp1 := hp1.mono hG150
        replace hx := hx.mono hG150
        replace hlf := hlf.mono hG150
        replace hy := hy.mono hG150
        replace ha := ha.mono hG150
        replace ht := ht.mono hG150
        replace htt := htt.mono hG150
        rw [decide_eq_true (show _ = _ from trim_trim cl b)]
        refine O_y hs (Y_pickT rfl rfl ?_)
        refine O_y hs (Y_move rfl ?_)
        refine O_yy 152 hs rfl rfl (Y_ldW 3 Tryz.isAgg27 Tryz.sizeOf27 rfl rfl (by first | omega | (simp; omega) | simp) ?_)
        refine O_yy 152 hs rfl rfl (Y_move rfl ?_)
        refine O_yy 152 hs rfl rfl (Y_move rfl ?_)
        refine O_yes 152 rfl rfl (S_call (H1 := []) hs rfl Tryz.func25 rfl (by kernel_rfl) (between_ok hc hb ht (by omega) hsp hpre hsuf) fun v22 G' H' _ hR hG156 hs => ?_)
        obtain ⟨rfl, rfl⟩ := hR
        replace hs : St _ _ [_, _, _, _] _ := hs
        replace hb := hb.mono hG156
        replace hT := hT.mono hG156
        replace hm := hm.mono hG156
        replace hp1 := hp1.mono hG156
        replace hx := hx.mono hG156
        replace hlf := hlf.mono hG156
        replace hy := hy.mono hG156
        replace ha := ha.mono hG156
        replace ht := ht.mono hG156
        replace htt := htt.mono hG156
        refine O_y hs (Y_pickT rfl rfl ?_)
        refine O_y hs (Y_assign rfl ?_)
        refine O_nil (T_sub [(6, _)] ⟨rfl, trivial⟩ ?_)
        refine T_ret ?_
        refine Rt_fin (vs := [_]) Tryz.results6 rfl ⟨rfl, trivial⟩ ?_
        try dsimp only [tup]
        exact ⟨_, [], hs.done, rfl, rfl⟩

end Go.Proofs.YtffbfibpfnlfeaaGreatDoor
