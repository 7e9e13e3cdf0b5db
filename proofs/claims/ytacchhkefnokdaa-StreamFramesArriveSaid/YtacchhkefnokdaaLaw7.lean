import Derived.Test.YtacchhkefnokdaaExWalks
import Derived.Test.YtacchhkefnokdaaPlain
namespace Go.Proofs.Ytacchhkefnokdaa
open Go Go.Ex Go.RowKit


set_option maxHeartbeats 400000 in
set_option maxRecDepth 10000 in
theorem law7 {vl0 vC : Value} {G : Ghost} {l : List (List UInt8)} {z : Nat} {C : List Int} (hl : LBytes G vl0 l) (_hz : z ≤ 65535) (hC : Ints G vC C) :
    FnOk Try.prog 7 [vl0, .int .u16 (z : Int), vC] G [] fun r _ H' => H' = [] ∧ r = .bool true := by
  obtain ⟨vl, hl1, hl2⟩ := id hl
  obtain ⟨AL, cL, rfl, hl3⟩ := id hl1
  obtain ⟨AC, cC, rfl, _⟩ := id hC
  refine FnOk.of_T [(0, _), (1, _), (2, _)] Try.func7 rfl Try.ntmps7 (by simp) rfl fun w0 hs => ?_
  have hl0 := hl
  have hC0 := hC
  have h40 := fewF_le l
  have h12 := fewF_len l
  refine T_seq (T_region rfl ?_)
  refine O_y hs (Y_assign rfl ?_)
  refine O_nil (T_sub [(0, _), (1, _), (2, _)] ⟨rfl, rfl, rfl, trivial⟩ ?_)
  refine T_seq (T_region rfl ?_)
  refine O_s (S_call (H1 := []) hs rfl Try.func11 rfl (by kernel_rfl) (sanity_ok) fun v1 G' H' _ hR hG19 hs => ?_)
  obtain ⟨rfl, rfl⟩ := hR
  replace hs : St _ _ [] _ := hs
  replace hl := hl.mono hG19
  replace hC := hC.mono hG19
  refine O_y hs (Y_assign rfl ?_)
  refine O_nil (T_sub [(0, _), (1, _), (2, _), (7, _)] ⟨rfl, rfl, rfl, rfl, trivial⟩ ?_)
  refine T_seq (T_region rfl ?_)
  refine O_s (S_lit hs Try.underlying23 Try.sizeOf5 Try.zeroValue5 rfl rfl (by decide) (by decide) rfl (cs := []) rfl rfl fun v2 _ hs _ => ?_)
  refine O_s (S_lit hs Try.underlying22 Try.sizeOf23 Try.zeroValue23 rfl rfl (by decide) (by decide) rfl (cs := []) rfl rfl fun v3 _ hs _ => ?_)
  refine O_y hs (Y_assign rfl ?_)
  refine O_y hs (Y_assign rfl ?_)
  refine O_nil (T_sub [(0, _), (1, _), (2, _), (7, _), (8, _), (9, _)] ⟨rfl, rfl, rfl, rfl, rfl, rfl, trivial⟩ ?_)
  refine T_seq (T_region rfl ?_)
  refine O_y hs (Y_move rfl ?_)
  refine O_s (S_call (H1 := []) hs rfl Try.func28 rfl (by kernel_rfl) (few_ok hl) fun v4 G' H' _ hR hG23 hs => ?_)
  obtain ⟨rfl, hX⟩ := hR
  replace hs : St _ _ [_, _] _ := hs
  replace hl := hl.mono hG23
  replace hC := hC.mono hG23
  obtain ⟨vf, hf1, hf2⟩ := id hX
  obtain ⟨A10, c10, rfl, _⟩ := id hf1
  refine O_y hs (Y_assign rfl ?_)
  refine O_nil (T_sub [(1, _), (2, _), (7, _), (8, _), (9, _), (10, _)] ⟨rfl, rfl, rfl, rfl, rfl, rfl, trivial⟩ ?_)
  refine T_seq (T_seq (T_region rfl ?_))
  refine O_y hs (Y_assign rfl ?_)
  refine O_nil (T_sub [(1, _), (2, _), (7, _), (8, _), (9, _), (10, _), (11, _)] ⟨rfl, rfl, rfl, rfl, rfl, rfl, rfl, trivial⟩ ?_)
  have hs := hs.front 1 rfl (H' := [_, _]) rfl
  refine T_block (T_loop (fun m E w => ∃ (k : Nat) (W : List UInt8) (want : List (List UInt8)) (v8 v9 : Value) (vs : List Value) (G' : Ghost), k ≤ (fewF l).length ∧ W.length ≤ 46 * k ∧ want.length ≤ k ∧ Gives W want ∧ LB G' vs want ∧ LBytes G' (.slice A10 (fewF l).length c10) (fewF l) ∧ m = (fewF l).length - k ∧ E = ⟨[], [(1, .int .u16 (z : Int)), (2, (.slice AC C.length cC)), (7, .bool true), (8, v8), (9, v9), (10, (.slice A10 (fewF l).length c10)), (11, .int .i64 (k : Int))]⟩ ∧ St ⟨w0, G, feet []⟩ G' [.row 5 1 v8 W.length (W.map byteV), .row 23 1 v9 vs.length vs] w) (L := [(1, _), (2, _), (7, _), (8, _), (9, _), (10, _), (11, _)]) ⟨rfl, rfl, rfl, rfl, rfl, rfl, rfl, trivial⟩ (⟨0, [], [], _, _, [], _, by omega, by simp, by simp, Gives.nil, LB.nil _, hX, rfl, rfl, hs⟩) fun m E w hI => ?_)
  obtain ⟨k, W, want, v8, v9, vs, G', hk, hWl, hwl, hP, hvs, hX, rfl, rfl, hs⟩ := hI
  have hC := hC0.mono hs.le
  have hvl := All2.length hvs
  refine T_seq (T_seq (T_region rfl ?_))
  refine O_y hs (Y_move rfl ?_)
  refine O_y hs (Y_move rfl ?_)
  refine O_y hs (Y_len Try.underlying22 rfl ?_)
  refine O_y hs (Y_cmpS rfl rfl rfl (fun h27 => ?_) (fun h27 => ?_))
  · -- h27: True
    dsimp only [cmpP] at h27
    refine O_nil (T_sub [(1, _), (2, _), (7, _), (8, _), (9, _), (10, _), (11, _), (27, _)] ⟨rfl, rfl, rfl, rfl, rfl, rfl, rfl, rfl, trivial⟩ ?_)
    refine T_condT rfl (T_skip ?_)
    have hxk := h40 _ (List.getElem_mem (show k < (fewF l).length by omega))
    refine T_seq (T_block (T_seq (T_region rfl ?_)))
    refine O_y hs (Y_move rfl ?_)
    refine O_y hs (Y_move rfl ?_)
    refine O_y hs (Y_idxL hX k Try.underlying22 Try.sizeOf23 rfl rfl rfl (by omega) fun p33 u33 hp33 hu33 => ?_)
    obtain ⟨A33, c33, rfl, _⟩ := id hu33
    refine O_y hs (Y_ldG Try.isAgg23 rfl hp33 ?_)
    refine O_s (S_call (H1 := []) hs rfl Try.func19 rfl (by kernel_rfl) (frame_ok hu33 (by omega)) fun v5 G' H' _ hR hG35 hs => ?_)
    obtain ⟨rfl, u35, rfl, hu35⟩ := hR
    replace hs : St _ _ [_, _] _ := hs
    replace hC := hC.mono hG35
    replace hX := hX.mono hG35
    replace hvs := hvs.mono hG35
    replace hu33 := hu33.mono hG35
    obtain ⟨Au35, cu35, rfl, _⟩ := id hu35
    refine O_y hs (Y_move rfl ?_)
    refine O_y hs (Y_extract rfl rfl ?_)
    refine O_y hs (Y_extract rfl rfl ?_)
    refine O_y hs (Y_assign rfl ?_)
    refine O_y hs (Y_assign rfl ?_)
    refine O_nil (T_sub [(1, _), (2, _), (7, _), (8, _), (9, _), (10, _), (11, _), (12, _), (13, _)] ⟨rfl, rfl, rfl, rfl, rfl, rfl, rfl, rfl, rfl, trivial⟩ ?_)
    refine T_seq (T_seq (T_region rfl ?_))
    refine O_y hs (Y_move rfl ?_)
    refine O_y hs (Y_cmpF rfl rfl rfl (by omega) ?_)
    refine O_y hs (Y_move rfl ?_)
    refine O_yy 40 hs rfl rfl (Y_move rfl ?_)
    refine O_yy 40 hs rfl rfl (Y_len Try.underlying23 rfl ?_)
    refine O_yy 40 hs rfl rfl (Y_move rfl ?_)
    refine O_yy 40 hs rfl rfl (Y_move rfl ?_)
    refine O_yy 40 hs rfl rfl (Y_idxL hX k Try.underlying22 Try.sizeOf23 rfl rfl rfl (by omega) fun p45 u45 hp45 hu45 => ?_)
    obtain ⟨A45, c45, rfl, _⟩ := id hu45
    refine O_yy 40 hs rfl rfl (Y_ldG Try.isAgg23 rfl hp45 ?_)
    refine O_yy 40 hs rfl rfl (Y_len Try.underlying23 rfl ?_)
    refine O_yy 40 hs rfl rfl (Y_add (c := ((2 + (fewF l)[k].length : Nat) : Int)) rfl rfl (by omega) (by omega) ?_)
    refine O_yy 40 hs rfl rfl (Y_cmpF rfl rfl rfl (by dsimp only [cmpP]; rw [frameL_length]; omega) ?_)
    refine O_y hs (Y_pickF rfl rfl ?_)
    refine O_nil (T_sub [(1, _), (2, _), (7, _), (8, _), (9, _), (10, _), (11, _), (12, _), (50, _)] ⟨rfl, rfl, rfl, rfl, rfl, rfl, rfl, rfl, rfl, trivial⟩ ?_)
    refine T_condF rfl (T_skip ?_)
    refine T_seq (T_seq (T_region rfl ?_))
    refine O_y hs (Y_move rfl ?_)
    refine O_y hs (Y_move rfl ?_)
    refine O_y hs (Y_shr rfl rfl (by omega) rfl ?_)
    refine O_y hs (Y_bits rfl rfl (by simp) rfl ?_)
    refine O_y hs (Y_cmpS rfl rfl rfl (fun h55 => ?_) (fun h55 => ?_))
    · -- h55: True
      dsimp only [cmpP] at h55
      refine O_nil (T_sub [(1, _), (2, _), (7, _), (8, _), (9, _), (10, _), (11, _), (12, _), (55, _)] ⟨rfl, rfl, rfl, rfl, rfl, rfl, rfl, rfl, rfl, trivial⟩ ?_)
      refine T_condT rfl (T_region rfl ?_)
      refine O_y hs (Y_move rfl ?_)
      refine O_s (S_lit hs Try.underlying23 Try.sizeOf5 Try.zeroValue5 rfl rfl (by decide) (by decide) rfl (cs := [_, _]) rfl rfl fun v6 _ hs _ => ?_)
      obtain ⟨_, hG57, hl57, hs⟩ := hs.fixRow noM
      replace hC := hC.mono hG57
      replace hX := hX.mono hG57
      replace hvs := hvs.mono hG57
      replace hu33 := hu33.mono hG57
      replace hu35 := hu35.mono hG57
      replace hu45 := hu45.mono hG57
      refine O_s (S_append hs Try.underlying23 TI5 rfl (by decide) rfl rfl ((Bytes.ofSl (bs := [0, 0]) hl57 rfl rfl)) (byteV_one) (by simp; omega) (by simp; omega) fun v7 _ hs => ?_)
      refine O_y hs (Y_assign rfl ?_)
      refine O_nil (T_sub [(1, _), (2, _), (7, _), (8, _), (9, _), (10, _), (11, _), (12, _)] ⟨rfl, rfl, rfl, rfl, rfl, rfl, rfl, rfl, trivial⟩ ?_)
      refine T_seq (T_region rfl ?_)
      refine O_y hs (Y_move rfl ?_)
      refine O_y hs (Y_move rfl ?_)
      refine O_s (S_append hs Try.underlying23 TI5 rfl (by decide) rfl rfl (hu35) (byteV_one) (by simp [frameL_length]; omega) (by simp [frameL_length]; omega) fun v8 _ hs => ?_)
      refine O_y hs (Y_assign rfl ?_)
      refine O_nil (T_sub [(1, _), (2, _), (7, _), (8, _), (9, _), (10, _), (11, _)] ⟨rfl, rfl, rfl, rfl, rfl, rfl, rfl, trivial⟩ ?_)
      refine T_seq (T_region rfl ?_)
      refine O_y hs (Y_move rfl ?_)
      refine O_y hs (Y_move rfl ?_)
      refine O_y hs (Y_idxL hX k Try.underlying22 Try.sizeOf23 rfl rfl rfl (by omega) fun p64 u64 hp64 hu64 => ?_)
      obtain ⟨A64, c64, rfl, _⟩ := id hu64
      refine O_y hs (Y_ldG Try.isAgg23 rfl hp64 ?_)
      refine O_y hs (Y_len Try.underlying23 rfl ?_)
      refine O_y hs (Y_cmpS rfl rfl rfl (fun h67 => ?_) (fun h67 => ?_))
      · -- h67: True
        dsimp only [cmpP] at h67
        refine O_nil (T_sub [(1, _), (2, _), (7, _), (8, _), (9, _), (10, _), (11, _), (67, _)] ⟨rfl, rfl, rfl, rfl, rfl, rfl, rfl, rfl, trivial⟩ ?_)
        refine T_condT rfl (T_region rfl ?_)
        refine O_y hs (Y_move rfl ?_)
        refine O_y hs (Y_move rfl ?_)
        refine O_y hs (Y_move rfl ?_)
        refine O_y hs (Y_idxL hX k Try.underlying22 Try.sizeOf23 rfl rfl rfl (by omega) fun p71 u71 hp71 hu71 => ?_)
        obtain ⟨A71, c71, rfl, _⟩ := id hu71
        refine O_y hs (Y_ldG Try.isAgg23 rfl hp71 ?_)
        refine O_s (S_lit hs Try.underlying22 Try.sizeOf23 Try.zeroValue23 rfl rfl (by decide) (by decide) rfl (cs := [_]) rfl rfl fun v9 _ hs _ => ?_)
        obtain ⟨_, hG73, hl73, hs⟩ := hs.fixRow noM
        replace hC := hC.mono hG73
        replace hX := hX.mono hG73
        replace hvs := hvs.mono hG73
        replace hu33 := hu33.mono hG73
        replace hu35 := hu35.mono hG73
        replace hu45 := hu45.mono hG73
        replace hu64 := hu64.mono hG73
        replace hu71 := hu71.mono hG73
        have hs := hs.front 1 rfl (H' := [_, _]) rfl
        refine O_s (S_append hs Try.underlying22 TI23 rfl (by decide) rfl rfl (hl73) (one1 rfl) (by omega) (by omega) fun v10 _ hs => ?_)
        refine O_y hs (Y_assign rfl ?_)
        refine O_nil (T_sub [(1, _), (2, _), (7, _), (8, _), (9, _), (10, _), (11, _)] ⟨rfl, rfl, rfl, rfl, rfl, rfl, rfl, trivial⟩ ?_)
        refine T_region rfl ?_
        refine O_y hs (Y_move rfl ?_)
        refine O_y hs (Y_add (c := ((k + 1 : Nat) : Int)) rfl rfl (by omega) (by omega) ?_)
        refine O_y hs (Y_assign rfl ?_)
        have hs := hs.front 1 rfl (H' := [_, _]) rfl
        refine O_nil ⟨_, ?_, [(1, _), (2, _), (7, _), (8, _), (9, _), (10, _), (11, _)], ⟨rfl, rfl, rfl, rfl, rfl, rfl, rfl, trivial⟩, ⟨k + 1, W ++ [0, 0] ++ frameL (fewF l)[k], want ++ [(fewF l)[k]], _, _, vs ++ [_], _, by omega, by simp [frameL_length]; omega, by simp; omega, Gives.frame hP.pause (by omega) (by omega), hvs.snoc hu71, hX, rfl, rfl, by rw [List.length_append, List.length_append, List.length_append, List.map_append, List.map_append]; exact hs⟩⟩
        omega
      · -- h67: False
        dsimp only [cmpP] at h67
        refine O_nil (T_sub [(1, _), (2, _), (7, _), (8, _), (9, _), (10, _), (11, _), (67, _)] ⟨rfl, rfl, rfl, rfl, rfl, rfl, rfl, rfl, trivial⟩ ?_)
        refine T_condF rfl (T_skip ?_)
        refine T_region rfl ?_
        refine O_y hs (Y_move rfl ?_)
        refine O_y hs (Y_add (c := ((k + 1 : Nat) : Int)) rfl rfl (by omega) (by omega) ?_)
        refine O_y hs (Y_assign rfl ?_)
        refine O_nil ⟨_, ?_, [(1, _), (2, _), (7, _), (8, _), (9, _), (10, _), (11, _)], ⟨rfl, rfl, rfl, rfl, rfl, rfl, rfl, trivial⟩, ⟨k + 1, W ++ [0, 0] ++ frameL (fewF l)[k], want, _, _, vs, _, by omega, by simp [frameL_length]; omega, by omega, Gives.empty hP.pause (by omega), hvs, hX, rfl, rfl, by rw [List.length_append, List.length_append, List.map_append, List.map_append]; exact hs⟩⟩
        omega
    · -- h55: False
      dsimp only [cmpP] at h55
      refine O_nil (T_sub [(1, _), (2, _), (7, _), (8, _), (9, _), (10, _), (11, _), (12, _), (55, _)] ⟨rfl, rfl, rfl, rfl, rfl, rfl, rfl, rfl, rfl, trivial⟩ ?_)
      refine T_condF rfl (T_skip ?_)
      refine T_seq (T_region rfl ?_)
      refine O_y hs (Y_move rfl ?_)
      refine O_y hs (Y_move rfl ?_)
      refine O_s (S_append hs Try.underlying23 TI5 rfl (by decide) rfl rfl (hu35) (byteV_one) (by simp [frameL_length]; omega) (by simp [frameL_length]; omega) fun v11 _ hs => ?_)
      refine O_y hs (Y_assign rfl ?_)
      refine O_nil (T_sub [(1, _), (2, _), (7, _), (8, _), (9, _), (10, _), (11, _)] ⟨rfl, rfl, rfl, rfl, rfl, rfl, rfl, trivial⟩ ?_)
      refine T_seq (T_region rfl ?_)
      refine O_y hs (Y_move rfl ?_)
      refine O_y hs (Y_move rfl ?_)
      refine O_y hs (Y_idxL hX k Try.underlying22 Try.sizeOf23 rfl rfl rfl (by omega) fun p64 u64 hp64 hu64 => ?_)
      obtain ⟨A64, c64, rfl, _⟩ := id hu64
      refine O_y hs (Y_ldG Try.isAgg23 rfl hp64 ?_)
      refine O_y hs (Y_len Try.underlying23 rfl ?_)
      refine O_y hs (Y_cmpS rfl rfl rfl (fun h67 => ?_) (fun h67 => ?_))
      · -- h67: True
        dsimp only [cmpP] at h67
        refine O_nil (T_sub [(1, _), (2, _), (7, _), (8, _), (9, _), (10, _), (11, _), (67, _)] ⟨rfl, rfl, rfl, rfl, rfl, rfl, rfl, rfl, trivial⟩ ?_)
        refine T_condT rfl (T_region rfl ?_)
        refine O_y hs (Y_move rfl ?_)
        refine O_y hs (Y_move rfl ?_)
        refine O_y hs (Y_move rfl ?_)
        refine O_y hs (Y_idxL hX k Try.underlying22 Try.sizeOf23 rfl rfl rfl (by omega) fun p71 u71 hp71 hu71 => ?_)
        obtain ⟨A71, c71, rfl, _⟩ := id hu71
        refine O_y hs (Y_ldG Try.isAgg23 rfl hp71 ?_)
        refine O_s (S_lit hs Try.underlying22 Try.sizeOf23 Try.zeroValue23 rfl rfl (by decide) (by decide) rfl (cs := [_]) rfl rfl fun v12 _ hs _ => ?_)
        obtain ⟨_, hG73, hl73, hs⟩ := hs.fixRow noM
        replace hC := hC.mono hG73
        replace hX := hX.mono hG73
        replace hvs := hvs.mono hG73
        replace hu33 := hu33.mono hG73
        replace hu35 := hu35.mono hG73
        replace hu45 := hu45.mono hG73
        replace hu64 := hu64.mono hG73
        replace hu71 := hu71.mono hG73
        have hs := hs.front 1 rfl (H' := [_, _]) rfl
        refine O_s (S_append hs Try.underlying22 TI23 rfl (by decide) rfl rfl (hl73) (one1 rfl) (by omega) (by omega) fun v13 _ hs => ?_)
        refine O_y hs (Y_assign rfl ?_)
        refine O_nil (T_sub [(1, _), (2, _), (7, _), (8, _), (9, _), (10, _), (11, _)] ⟨rfl, rfl, rfl, rfl, rfl, rfl, rfl, trivial⟩ ?_)
        refine T_region rfl ?_
        refine O_y hs (Y_move rfl ?_)
        refine O_y hs (Y_add (c := ((k + 1 : Nat) : Int)) rfl rfl (by omega) (by omega) ?_)
        refine O_y hs (Y_assign rfl ?_)
        have hs := hs.front 1 rfl (H' := [_, _]) rfl
        refine O_nil ⟨_, ?_, [(1, _), (2, _), (7, _), (8, _), (9, _), (10, _), (11, _)], ⟨rfl, rfl, rfl, rfl, rfl, rfl, rfl, trivial⟩, ⟨k + 1, W ++ frameL (fewF l)[k], want ++ [(fewF l)[k]], _, _, vs ++ [_], _, by omega, by simp [frameL_length]; omega, by simp; omega, Gives.frame hP (by omega) (by omega), hvs.snoc hu71, hX, rfl, rfl, by rw [List.length_append, List.length_append, List.map_append]; exact hs⟩⟩
        omega
      · -- h67: False
        dsimp only [cmpP] at h67
        refine O_nil (T_sub [(1, _), (2, _), (7, _), (8, _), (9, _), (10, _), (11, _), (67, _)] ⟨rfl, rfl, rfl, rfl, rfl, rfl, rfl, rfl, trivial⟩ ?_)
        refine T_condF rfl (T_skip ?_)
        refine T_region rfl ?_
        refine O_y hs (Y_move rfl ?_)
        refine O_y hs (Y_add (c := ((k + 1 : Nat) : Int)) rfl rfl (by omega) (by omega) ?_)
        refine O_y hs (Y_assign rfl ?_)
        refine O_nil ⟨_, ?_, [(1, _), (2, _), (7, _), (8, _), (9, _), (10, _), (11, _)], ⟨rfl, rfl, rfl, rfl, rfl, rfl, rfl, trivial⟩, ⟨k + 1, W ++ frameL (fewF l)[k], want, _, _, vs, _, by omega, by simp [frameL_length]; omega, by omega, Gives.empty hP (by omega), hvs, hX, rfl, rfl, by rw [List.length_append, List.map_append]; exact hs⟩⟩
        omega
  · -- h27: False
    dsimp only [cmpP] at h27
    refine O_nil (T_sub [(1, _), (2, _), (7, _), (8, _), (9, _), (10, _), (11, _), (27, _)] ⟨rfl, rfl, rfl, rfl, rfl, rfl, rfl, rfl, trivial⟩ ?_)
    refine T_condF rfl (T_exit ?_)
    obtain ⟨_, hGf0, hf0, hs0⟩ := hs.fixRow noM
    have hs := hs0
    replace hC := hC.mono hGf0
    replace hX := hX.mono hGf0
    replace hvs := hvs.mono hGf0
    have hw := Bytes.ofSl (bs := W) hf0 rfl rfl
    obtain ⟨_, hGf1, hf1, hs1⟩ := hs.fixRow noM
    have hs := hs1
    replace hC := hC.mono hGf1
    replace hX := hX.mono hGf1
    replace hvs := hvs.mono hGf1
    replace hw := hw.mono hGf1
    have hwant := LBytes.of hf1 hvs
    obtain ⟨Aw, cw, rfl, _⟩ := id hw
    obtain ⟨vsw, hslw, hvsw⟩ := id hwant
    obtain ⟨Awa, cwa, rfl, _⟩ := id hslw
    have hs := hs1
    refine T_seq (T_region rfl ?_)
    refine O_s (S_call (H1 := []) hs rfl Try.func15 rfl (by kernel_rfl) (new_eq (⟨[], 20, false⟩, 0) (by decide)) fun v14 G' H' _ hR hG76 hs => ?_)
    obtain ⟨rfl, dv76, rfl, u76, rfl, hu76⟩ := hR
    replace hs : St _ _ [] _ := hs
    replace hC := hC.mono hG76
    replace hX := hX.mono hG76
    replace hvs := hvs.mono hG76
    replace hw := hw.mono hG76
    replace hwant := hwant.mono hG76
    obtain ⟨Au76, cu76, rfl, _⟩ := id hu76
    refine O_y hs (Y_move rfl ?_)
    refine O_y hs (Y_extract rfl rfl ?_)
    refine O_y hs (Y_extract rfl rfl ?_)
    refine O_s (S_alloc hs Try.zeroValue28 (cs := [_, _, _]) rfl fun b14 _ hs => ?_)
    refine O_n (S_stA hs Try.sizeOf28 rfl rfl (vs := [_, _, _]) rfl rfl (by simp) (cs' := [_, _, _]) rfl fun _ hs => ?_)
    refine O_y hs (Y_assign rfl ?_)
    refine O_nil (T_sub [(2, _), (7, _), (8, _), (9, _), (14, _), (15, _)] ⟨rfl, rfl, rfl, rfl, rfl, rfl, trivial⟩ ?_)
    refine T_seq (T_drawS [0, 1, 2, 3, 4, 5, 6, 7, 8, 9, 10, 13] hs (by kernel_rfl) ?_)
    replace hs := hs.drew
    refine A_take 0 rfl (by kernel_rfl) rfl hs (Y_ldA 0 Try.isAgg28 Try.sizeOf28 rfl rfl (vs := [_, _, _]) rfl rfl ?_)
    refine A_take 1 rfl (by kernel_rfl) rfl hs (Y_move rfl ?_)
    refine A_take 2 rfl (by kernel_rfl) rfl hs (Y_move rfl ?_)
    refine A_take 3 rfl (by kernel_rfl) rfl hs (Y_move rfl ?_)
    refine A_take 4 rfl (by kernel_rfl) rfl hs (Y_len Try.underlying24 rfl ?_)
    refine A_take 5 rfl (by kernel_rfl) rfl hs (Y_min (c := ((min C.length 8 : Nat) : Int)) rfl rfl (by omega) ?_)
    refine A_take 6 rfl (by kernel_rfl) rfl hs (Y_sliceI hC 0 (min C.length 8) Try.underlying24 Try.sizeOf3 rfl rfl ⟨_, _, rfl, rfl⟩ (by omega) (by omega) fun s86 hs86 => ?_)
    obtain ⟨A86, c86, rfl, _⟩ := id hs86
    refine A_two 7 13 rfl rfl (by kernel_rfl) rfl rfl ?_ ?_
    · -- operation 7 comes up
      have hle := hs.le
      refine S_call (H1 := []) hs rfl Try.func23 rfl (by kernel_rfl) (split_ok hw hs86 (by omega) (by rw [List.length_take]; omega)) fun v15 G' H' _ hR hG87 hs => ?_
      obtain ⟨rfl, hsp⟩ := hR
      replace hs : St _ _ [_] _ := hs
      replace hC := hC.mono hG87
      replace hX := hX.mono hG87
      replace hvs := hvs.mono hG87
      replace hw := hw.mono hG87
      replace hwant := hwant.mono hG87
      replace hu76 := hu76.mono hG87
      replace hs86 := hs86.mono hG87
      refine A_moreS hs hle hG87 (List.Sublist.refl _) ?_
      refine A_two 8 13 rfl rfl (by kernel_rfl) rfl rfl ?_ ?_
      · -- operation 8 comes up
        have hle := hs.le
        refine S_call (H1 := []) hs rfl Try.func27 rfl (by kernel_rfl) (run_eq (d := ⟨[], 20, false⟩) (⟨[], 20 - (want.length : Int), false⟩, want, 0) ⟨_, rfl, hu76⟩ hsp (by rw [splitF_len, List.length_take]; omega) (fun x hx => by have := piecesF_mem_le _ _ _ x hx; omega) (hP.run (by omega) (by omega) _ (splitF_flat _ _))) fun v16 G' H' _ hR hG88 hs => ?_
        obtain ⟨rfl, dv88, mv88, rfl, ⟨u88, rfl, hu88⟩, hm88⟩ := hR
        replace hs : St _ _ [_] _ := hs
        replace hC := hC.mono hG88
        replace hX := hX.mono hG88
        replace hvs := hvs.mono hG88
        replace hw := hw.mono hG88
        replace hwant := hwant.mono hG88
        replace hu76 := hu76.mono hG88
        replace hs86 := hs86.mono hG88
        replace hsp := hsp.mono hG88
        obtain ⟨Au88, cu88, rfl, _⟩ := id hu88
        obtain ⟨vs88, hsl88, hvs88⟩ := id hm88
        obtain ⟨A88, c88, rfl, _⟩ := id hsl88
        refine A_moreS hs hle hG88 (List.Sublist.refl _) ?_
        refine A_take 9 rfl (by kernel_rfl) rfl hs (Y_move rfl ?_)
        refine A_pure 11 rfl (by kernel_rfl) rfl (Y_extract rfl rfl ?_)
        refine A_pure 12 rfl (by kernel_rfl) rfl (Y_extract rfl rfl ?_)
        refine A_take 10 rfl (by kernel_rfl) rfl hs (Y_extract rfl rfl ?_)
        have hle := hs.le
        refine A_only 13 rfl (by kernel_rfl) rfl (S_alloc hs Try.zeroValue28 (cs := [_, _, _]) rfl fun b16 _ hs => ?_)
        refine A_moreS hs hle (Ghost.le.refl _) (List.sublist_cons_self _ _) ?_
        refine A_tailN 14 rfl (by kernel_rfl) (by kernel_rfl) rfl (S_stA hs Try.sizeOf28 rfl rfl (vs := [_, _, _]) rfl rfl (by simp) (cs' := [_, _, _]) rfl fun _ hs => ?_)
        refine A_tail 15 rfl (by kernel_rfl) (by kernel_rfl) rfl (S_y hs rfl (Y_assign rfl ?_))
        refine A_tail 16 rfl (by kernel_rfl) (by kernel_rfl) rfl (S_y hs rfl (Y_assign rfl ?_))
        refine A_done (by kernel_rfl) (T_sub [(7, _), (9, _), (15, _), (16, _), (17, _), (18, _)] ⟨rfl, rfl, rfl, rfl, rfl, rfl, trivial⟩ ?_)
        refine T_seq (T_region rfl ?_)
        refine O_y hs (Y_move rfl ?_)
        refine O_y hs (Y_cmpT rfl rfl rfl (rfl) ?_)
        refine O_y hs (Y_move rfl ?_)
        refine O_yy 94 hs rfl rfl (Y_move rfl ?_)
        refine O_yy 94 hs rfl rfl (Y_cmpT rfl rfl rfl (rfl) ?_)
        refine O_y hs (Y_pickT rfl rfl ?_)
        refine O_y hs (Y_move rfl ?_)
        refine O_yy 98 hs rfl rfl (Y_move rfl ?_)
        refine O_yy 98 hs rfl rfl (Y_move rfl ?_)
        refine O_yes 98 rfl rfl (S_call (H1 := []) hs rfl Try.func22 rfl (by kernel_rfl) (sameBytes_eq hm88 hwant (by show want.length ≤ _; omega) true (by simp)) fun v17 G' H' _ hR hG101 hs => ?_)
        obtain ⟨rfl, rfl⟩ := hR
        replace hs : St _ _ [_, _] _ := hs
        replace hC := hC.mono hG101
        replace hX := hX.mono hG101
        replace hvs := hvs.mono hG101
        replace hw := hw.mono hG101
        replace hwant := hwant.mono hG101
        replace hu76 := hu76.mono hG101
        replace hs86 := hs86.mono hG101
        replace hsp := hsp.mono hG101
        replace hu88 := hu88.mono hG101
        replace hm88 := hm88.mono hG101
        refine O_y hs (Y_pickT rfl rfl ?_)
        refine O_y hs (Y_move rfl ?_)
        refine O_yy 103 hs rfl rfl (Y_ldA 0 Try.isAgg28 Try.sizeOf28 rfl rfl (vs := [_, _, _]) rfl rfl ?_)
        refine O_yy 103 hs rfl rfl (Y_move rfl ?_)
        refine O_yy 103 hs rfl rfl (Y_len Try.underlying22 rfl ?_)
        refine O_yy 103 hs rfl rfl (Y_sub (c := (20 - (want.length : Int))) rfl rfl (by omega) (by omega) ?_)
        refine O_yy 103 hs rfl rfl (Y_build Try.zeroValue28 rfl PL28 rfl (cs := [_, _, _]) rfl ?_)
        refine O_yes 103 rfl rfl (S_call (H1 := []) hs rfl Try.func21 rfl (by kernel_rfl) (same_eq (d := ⟨[], 20 - (want.length : Int), false⟩) (e := ⟨[], 20 - (want.length : Int), false⟩) ⟨_, rfl, hu88⟩ ⟨_, rfl, Sl.nil _ _⟩ true (by simp)) fun v18 G' H' _ hR hG109 hs => ?_)
        obtain ⟨rfl, rfl⟩ := hR
        replace hs : St _ _ [_, _] _ := hs
        replace hC := hC.mono hG109
        replace hX := hX.mono hG109
        replace hvs := hvs.mono hG109
        replace hw := hw.mono hG109
        replace hwant := hwant.mono hG109
        replace hu76 := hu76.mono hG109
        replace hs86 := hs86.mono hG109
        replace hsp := hsp.mono hG109
        replace hu88 := hu88.mono hG109
        replace hm88 := hm88.mono hG109
        refine O_y hs (Y_pickT rfl rfl ?_)
        refine O_y hs (Y_move rfl ?_)
        refine O_yy 111 hs rfl rfl (Y_move rfl ?_)
        refine O_y hs (Y_pickT rfl rfl ?_)
        refine O_y hs (Y_assign rfl ?_)
        refine O_nil (T_sub [(6, _)] ⟨rfl, trivial⟩ ?_)
        refine T_ret ?_
        refine Rt_fin (vs := [_]) Try.results7 rfl ⟨rfl, trivial⟩ ?_
        try dsimp only [tup]
        exact ⟨_, [], hs.done, rfl, rfl⟩
      · -- operation 13 comes up
        have hle := hs.le
        refine S_alloc hs Try.zeroValue28 (cs := [_, _, _]) rfl fun b16 _ hs => ?_
        refine A_moreS hs hle (Ghost.le.refl _) (List.sublist_cons_self _ _) ?_
        have hle := hs.le
        refine A_only 8 rfl (by kernel_rfl) rfl (S_call (H1 := []) hs rfl Try.func27 rfl (by kernel_rfl) (run_eq (d := ⟨[], 20, false⟩) (⟨[], 20 - (want.length : Int), false⟩, want, 0) ⟨_, rfl, hu76⟩ hsp (by rw [splitF_len, List.length_take]; omega) (fun x hx => by have := piecesF_mem_le _ _ _ x hx; omega) (hP.run (by omega) (by omega) _ (splitF_flat _ _))) fun v19 G' H' _ hR hG88 hs => ?_)
        obtain ⟨rfl, dv88, mv88, rfl, ⟨u88, rfl, hu88⟩, hm88⟩ := hR
        replace hs : St _ _ [_, _] _ := hs
        replace hC := hC.mono hG88
        replace hX := hX.mono hG88
        replace hvs := hvs.mono hG88
        replace hw := hw.mono hG88
        replace hwant := hwant.mono hG88
        replace hu76 := hu76.mono hG88
        replace hs86 := hs86.mono hG88
        replace hsp := hsp.mono hG88
        obtain ⟨Au88, cu88, rfl, _⟩ := id hu88
        obtain ⟨vs88, hsl88, hvs88⟩ := id hm88
        obtain ⟨A88, c88, rfl, _⟩ := id hsl88
        refine A_moreS hs hle hG88 (List.Sublist.refl _) ?_
        refine A_take 9 rfl (by kernel_rfl) rfl hs (Y_move rfl ?_)
        refine A_pure 11 rfl (by kernel_rfl) rfl (Y_extract rfl rfl ?_)
        refine A_pure 12 rfl (by kernel_rfl) rfl (Y_extract rfl rfl ?_)
        refine A_take 10 rfl (by kernel_rfl) rfl hs (Y_extract rfl rfl ?_)
        refine A_tailN 14 rfl (by kernel_rfl) (by kernel_rfl) rfl (S_stA hs Try.sizeOf28 rfl rfl (vs := [_, _, _]) rfl rfl (by simp) (cs' := [_, _, _]) rfl fun _ hs => ?_)
        refine A_tail 15 rfl (by kernel_rfl) (by kernel_rfl) rfl (S_y hs rfl (Y_assign rfl ?_))
        refine A_tail 16 rfl (by kernel_rfl) (by kernel_rfl) rfl (S_y hs rfl (Y_assign rfl ?_))
        refine A_done (by kernel_rfl) (T_sub [(7, _), (9, _), (15, _), (16, _), (17, _), (18, _)] ⟨rfl, rfl, rfl, rfl, rfl, rfl, trivial⟩ ?_)
        refine T_seq (T_region rfl ?_)
        refine O_y hs (Y_move rfl ?_)
        refine O_y hs (Y_cmpT rfl rfl rfl (rfl) ?_)
        refine O_y hs (Y_move rfl ?_)
        refine O_yy 94 hs rfl rfl (Y_move rfl ?_)
        refine O_yy 94 hs rfl rfl (Y_cmpT rfl rfl rfl (rfl) ?_)
        refine O_y hs (Y_pickT rfl rfl ?_)
        refine O_y hs (Y_move rfl ?_)
        refine O_yy 98 hs rfl rfl (Y_move rfl ?_)
        refine O_yy 98 hs rfl rfl (Y_move rfl ?_)
        refine O_yes 98 rfl rfl (S_call (H1 := []) hs rfl Try.func22 rfl (by kernel_rfl) (sameBytes_eq hm88 hwant (by show want.length ≤ _; omega) true (by simp)) fun v20 G' H' _ hR hG101 hs => ?_)
        obtain ⟨rfl, rfl⟩ := hR
        replace hs : St _ _ [_, _] _ := hs
        replace hC := hC.mono hG101
        replace hX := hX.mono hG101
        replace hvs := hvs.mono hG101
        replace hw := hw.mono hG101
        replace hwant := hwant.mono hG101
        replace hu76 := hu76.mono hG101
        replace hs86 := hs86.mono hG101
        replace hsp := hsp.mono hG101
        replace hu88 := hu88.mono hG101
        replace hm88 := hm88.mono hG101
        refine O_y hs (Y_pickT rfl rfl ?_)
        refine O_y hs (Y_move rfl ?_)
        refine O_yy 103 hs rfl rfl (Y_ldA 0 Try.isAgg28 Try.sizeOf28 rfl rfl (vs := [_, _, _]) rfl rfl ?_)
        refine O_yy 103 hs rfl rfl (Y_move rfl ?_)
        refine O_yy 103 hs rfl rfl (Y_len Try.underlying22 rfl ?_)
        refine O_yy 103 hs rfl rfl (Y_sub (c := (20 - (want.length : Int))) rfl rfl (by omega) (by omega) ?_)
        refine O_yy 103 hs rfl rfl (Y_build Try.zeroValue28 rfl PL28 rfl (cs := [_, _, _]) rfl ?_)
        refine O_yes 103 rfl rfl (S_call (H1 := []) hs rfl Try.func21 rfl (by kernel_rfl) (same_eq (d := ⟨[], 20 - (want.length : Int), false⟩) (e := ⟨[], 20 - (want.length : Int), false⟩) ⟨_, rfl, hu88⟩ ⟨_, rfl, Sl.nil _ _⟩ true (by simp)) fun v21 G' H' _ hR hG109 hs => ?_)
        obtain ⟨rfl, rfl⟩ := hR
        replace hs : St _ _ [_, _] _ := hs
        replace hC := hC.mono hG109
        replace hX := hX.mono hG109
        replace hvs := hvs.mono hG109
        replace hw := hw.mono hG109
        replace hwant := hwant.mono hG109
        replace hu76 := hu76.mono hG109
        replace hs86 := hs86.mono hG109
        replace hsp := hsp.mono hG109
        replace hu88 := hu88.mono hG109
        replace hm88 := hm88.mono hG109
        refine O_y hs (Y_pickT rfl rfl ?_)
        refine O_y hs (Y_move rfl ?_)
        refine O_yy 111 hs rfl rfl (Y_move rfl ?_)
        refine O_y hs (Y_pickT rfl rfl ?_)
        refine O_y hs (Y_assign rfl ?_)
        refine O_nil (T_sub [(6, _)] ⟨rfl, trivial⟩ ?_)
        refine T_ret ?_
        refine Rt_fin (vs := [_]) Try.results7 rfl ⟨rfl, trivial⟩ ?_
        try dsimp only [tup]
        exact ⟨_, [], hs.done, rfl, rfl⟩
    · -- operation 13 comes up
      have hle := hs.le
      refine S_alloc hs Try.zeroValue28 (cs := [_, _, _]) rfl fun b16 _ hs => ?_
      refine A_moreS hs hle (Ghost.le.refl _) (List.sublist_cons_self _ _) ?_
      have hle := hs.le
      refine A_only 7 rfl (by kernel_rfl) rfl (S_call (H1 := []) hs rfl Try.func23 rfl (by kernel_rfl) (split_ok hw hs86 (by omega) (by rw [List.length_take]; omega)) fun v22 G' H' _ hR hG87 hs => ?_)
      obtain ⟨rfl, hsp⟩ := hR
      replace hs : St _ _ [_, _] _ := hs
      replace hC := hC.mono hG87
      replace hX := hX.mono hG87
      replace hvs := hvs.mono hG87
      replace hw := hw.mono hG87
      replace hwant := hwant.mono hG87
      replace hu76 := hu76.mono hG87
      replace hs86 := hs86.mono hG87
      refine A_moreS hs hle hG87 (List.Sublist.refl _) ?_
      have hle := hs.le
      refine A_only 8 rfl (by kernel_rfl) rfl (S_call (H1 := []) hs rfl Try.func27 rfl (by kernel_rfl) (run_eq (d := ⟨[], 20, false⟩) (⟨[], 20 - (want.length : Int), false⟩, want, 0) ⟨_, rfl, hu76⟩ hsp (by rw [splitF_len, List.length_take]; omega) (fun x hx => by have := piecesF_mem_le _ _ _ x hx; omega) (hP.run (by omega) (by omega) _ (splitF_flat _ _))) fun v23 G' H' _ hR hG88 hs => ?_)
      obtain ⟨rfl, dv88, mv88, rfl, ⟨u88, rfl, hu88⟩, hm88⟩ := hR
      replace hs : St _ _ [_, _] _ := hs
      replace hC := hC.mono hG88
      replace hX := hX.mono hG88
      replace hvs := hvs.mono hG88
      replace hw := hw.mono hG88
      replace hwant := hwant.mono hG88
      replace hu76 := hu76.mono hG88
      replace hs86 := hs86.mono hG88
      replace hsp := hsp.mono hG88
      obtain ⟨Au88, cu88, rfl, _⟩ := id hu88
      obtain ⟨vs88, hsl88, hvs88⟩ := id hm88
      obtain ⟨A88, c88, rfl, _⟩ := id hsl88
      refine A_moreS hs hle hG88 (List.Sublist.refl _) ?_
      refine A_take 9 rfl (by kernel_rfl) rfl hs (Y_move rfl ?_)
      refine A_pure 11 rfl (by kernel_rfl) rfl (Y_extract rfl rfl ?_)
      refine A_pure 12 rfl (by kernel_rfl) rfl (Y_extract rfl rfl ?_)
      refine A_take 10 rfl (by kernel_rfl) rfl hs (Y_extract rfl rfl ?_)
      refine A_tailN 14 rfl (by kernel_rfl) (by kernel_rfl) rfl (S_stA hs Try.sizeOf28 rfl rfl (vs := [_, _, _]) rfl rfl (by simp) (cs' := [_, _, _]) rfl fun _ hs => ?_)
      refine A_tail 15 rfl (by kernel_rfl) (by kernel_rfl) rfl (S_y hs rfl (Y_assign rfl ?_))
      refine A_tail 16 rfl (by kernel_rfl) (by kernel_rfl) rfl (S_y hs rfl (Y_assign rfl ?_))
      refine A_done (by kernel_rfl) (T_sub [(7, _), (9, _), (15, _), (16, _), (17, _), (18, _)] ⟨rfl, rfl, rfl, rfl, rfl, rfl, trivial⟩ ?_)
      refine T_seq (T_region rfl ?_)
      refine O_y hs (Y_move rfl ?_)
      refine O_y hs (Y_cmpT rfl rfl rfl (rfl) ?_)
      refine O_y hs (Y_move rfl ?_)
      refine O_yy 94 hs rfl rfl (Y_move rfl ?_)
      refine O_yy 94 hs rfl rfl (Y_cmpT rfl rfl rfl (rfl) ?_)
      refine O_y hs (Y_pickT rfl rfl ?_)
      refine O_y hs (Y_move rfl ?_)
      refine O_yy 98 hs rfl rfl (Y_move rfl ?_)
      refine O_yy 98 hs rfl rfl (Y_move rfl ?_)
      refine O_yes 98 rfl rfl (S_call (H1 := []) hs rfl Try.func22 rfl (by kernel_rfl) (sameBytes_eq hm88 hwant (by show want.length ≤ _; omega) true (by simp)) fun v24 G' H' _ hR hG101 hs => ?_)
      obtain ⟨rfl, rfl⟩ := hR
      replace hs : St _ _ [_, _] _ := hs
      replace hC := hC.mono hG101
      replace hX := hX.mono hG101
      replace hvs := hvs.mono hG101
      replace hw := hw.mono hG101
      replace hwant := hwant.mono hG101
      replace hu76 := hu76.mono hG101
      replace hs86 := hs86.mono hG101
      replace hsp := hsp.mono hG101
      replace hu88 := hu88.mono hG101
      replace hm88 := hm88.mono hG101
      refine O_y hs (Y_pickT rfl rfl ?_)
      refine O_y hs (Y_move rfl ?_)
      refine O_yy 103 hs rfl rfl (Y_ldA 0 Try.isAgg28 Try.sizeOf28 rfl rfl (vs := [_, _, _]) rfl rfl ?_)
      refine O_yy 103 hs rfl rfl (Y_move rfl ?_)
      refine O_yy 103 hs rfl rfl (Y_len Try.underlying22 rfl ?_)
      refine O_yy 103 hs rfl rfl (Y_sub (c := (20 - (want.length : Int))) rfl rfl (by omega) (by omega) ?_)
      refine O_yy 103 hs rfl rfl (Y_build Try.zeroValue28 rfl PL28 rfl (cs := [_, _, _]) rfl ?_)
      refine O_yes 103 rfl rfl (S_call (H1 := []) hs rfl Try.func21 rfl (by kernel_rfl) (same_eq (d := ⟨[], 20 - (want.length : Int), false⟩) (e := ⟨[], 20 - (want.length : Int), false⟩) ⟨_, rfl, hu88⟩ ⟨_, rfl, Sl.nil _ _⟩ true (by simp)) fun v25 G' H' _ hR hG109 hs => ?_)
      obtain ⟨rfl, rfl⟩ := hR
      replace hs : St _ _ [_, _] _ := hs
      replace hC := hC.mono hG109
      replace hX := hX.mono hG109
      replace hvs := hvs.mono hG109
      replace hw := hw.mono hG109
      replace hwant := hwant.mono hG109
      replace hu76 := hu76.mono hG109
      replace hs86 := hs86.mono hG109
      replace hsp := hsp.mono hG109
      replace hu88 := hu88.mono hG109
      replace hm88 := hm88.mono hG109
      refine O_y hs (Y_pickT rfl rfl ?_)
      refine O_y hs (Y_move rfl ?_)
      refine O_yy 111 hs rfl rfl (Y_move rfl ?_)
      refine O_y hs (Y_pickT rfl rfl ?_)
      refine O_y hs (Y_assign rfl ?_)
      refine O_nil (T_sub [(6, _)] ⟨rfl, trivial⟩ ?_)
      refine T_ret ?_
      refine Rt_fin (vs := [_]) Try.results7 rfl ⟨rfl, trivial⟩ ?_
      try dsimp only [tup]
      exact ⟨_, [], hs.done, rfl, rfl⟩

end Go.Proofs.Ytacchhkefnokdaa
