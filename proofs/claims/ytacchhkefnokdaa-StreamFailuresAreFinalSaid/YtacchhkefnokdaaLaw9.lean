import Derived.Test.YtacchhkefnokdaaExWalks
import Derived.Test.YtacchhkefnokdaaPlain
namespace Go.Proofs.Ytacchhkefnokdaa
open Go Go.Ex Go.RowKit
theorem PL26 : places Try.prog 26 = some [(0, 1), (1, 1), (2, 1)] := by kernel_rfl

set_option maxHeartbeats 400000 in
set_option maxRecDepth 10000 in
theorem bytes_own {v1 v2 v3 : Value} {G : Ghost} {L : List (List UInt8)} {tail : List UInt8} (hL : LBytes G v1 L) (ht : Bytes G v2 tail) (_hv3 : v3.oneCell' = true) :
    FnOk Try.prog 12 [.agg #[v1, v2, v3]] G [] fun r _ H' => H' = [.row 5 1 r (wireF L tail).length ((wireF L tail).map byteV)] := by
  obtain ⟨vL, hL1, hL2⟩ := id hL
  obtain ⟨A, cap, rfl, hL3⟩ := id hL1
  obtain ⟨A2, c2, rfl, ht'⟩ := id ht
  refine FnOk.of_T [(0, _)] Try.func12 rfl Try.ntmps12 (by simp) rfl fun w0 hs => ?_
  have hL0 := hL
  have ht0 := ht
  refine T_seq (T_region rfl ?_)
  refine O_s (S_box hs rfl (cs := [_, _, _]) rfl fun b1 _ hs => ?_)
  refine O_y hs (Y_assign rfl ?_)
  refine O_nil (T_sub [(1, _)] ⟨rfl, trivial⟩ ?_)
  refine T_seq (T_region rfl ?_)
  refine O_s (S_lit hs Try.underlying23 Try.sizeOf5 Try.zeroValue5 rfl rfl (by decide) (by decide) rfl (cs := []) rfl rfl fun v1 _ hs _ => ?_)
  refine O_y hs (Y_fieldAddr FO26_0 rfl (m := 0) rfl ?_)
  refine O_y hs (Y_ld 1 Try.isAgg22 rfl rfl rfl ?_)
  refine O_s (S_call (H1 := []) hs rfl Try.func28 rfl (by kernel_rfl) (few_ok hL) fun v2 G' H' _ hR hG11 hs => ?_)
  obtain ⟨rfl, hf⟩ := hR
  replace hs : St _ _ [_, _] _ := hs
  replace hL := hL.mono hG11
  replace ht := ht.mono hG11
  obtain ⟨vf, hf1, hf2⟩ := id hf
  obtain ⟨A11, c11, rfl, _⟩ := id hf1
  refine O_y hs (Y_assign rfl ?_)
  refine O_y hs (Y_assign rfl ?_)
  refine O_nil (T_sub [(1, _), (3, _), (4, _)] ⟨rfl, rfl, rfl, trivial⟩ ?_)
  refine T_seq (T_seq (T_region rfl ?_))
  refine O_y hs (Y_assign rfl ?_)
  refine O_nil (T_sub [(1, _), (3, _), (4, _), (5, _)] ⟨rfl, rfl, rfl, rfl, trivial⟩ ?_)
  have h40 := fewF_le L
  have h12 := fewF_len L
  refine T_block (T_loop (fun m E w => ∃ (k : Nat) (v3' : Value) (G' : Ghost), k ≤ (fewF L).length ∧ m = (fewF L).length - k ∧ E = ⟨[], [(1, .pointer (some ⟨b1, 0, none⟩)), (3, v3'), (4, (.slice A11 (fewF L).length c11)), (5, .int .i64 (k : Int))]⟩ ∧ LBytes G' (.slice A11 (fewF L).length c11) (fewF L) ∧ St ⟨w0, G, feet []⟩ G' [.row 5 1 v3' (((fewF L).take k).map frameL).flatten.length ((((fewF L).take k).map frameL).flatten.map byteV), .blk b1 26 [.slice A L.length cap, .slice A2 tail.length c2, v3]] w) (L := [(1, _), (3, _), (4, _), (5, _)]) ⟨rfl, rfl, rfl, rfl, trivial⟩ (⟨0, _, _, by omega, rfl, rfl, hf, hs⟩) fun m E w hI => ?_)
  obtain ⟨k, v3', G', hk, rfl, rfl, hf, hs⟩ := hI
  have hL := hL0.mono hs.le
  have ht := ht0.mono hs.le
  have hkl := wire_le h40 k
  refine T_seq (T_seq (T_region rfl ?_))
  refine O_y hs (Y_move rfl ?_)
  refine O_y hs (Y_move rfl ?_)
  refine O_y hs (Y_len Try.underlying22 rfl ?_)
  refine O_y hs (Y_cmpS rfl rfl rfl (fun h15 => ?_) (fun h15 => ?_))
  · -- h15: True
    dsimp only [cmpP] at h15
    refine O_nil (T_sub [(1, _), (3, _), (4, _), (5, _), (15, _)] ⟨rfl, rfl, rfl, rfl, rfl, trivial⟩ ?_)
    refine T_condT rfl (T_skip ?_)
    refine T_seq (T_block (T_seq (T_region rfl ?_)))
    refine O_y hs (Y_move rfl ?_)
    refine O_y hs (Y_move rfl ?_)
    refine O_y hs (Y_idxL hf k Try.underlying22 Try.sizeOf23 rfl rfl rfl (by omega) fun p21 u21 hp21 hu21 => ?_)
    obtain ⟨A21, c21, rfl, _⟩ := id hu21
    refine O_y hs (Y_ldG Try.isAgg23 rfl hp21 ?_)
    refine O_s (S_call (H1 := []) hs rfl Try.func20 rfl (by kernel_rfl) (frameR_ok hu21 (by have := h40 _ (List.getElem_mem (show k < (fewF L).length by omega)); omega)) fun v3 G' H' _ hR hG23 hs => ?_)
    obtain ⟨rfl, u23, rfl, hu23⟩ := hR
    replace hs : St _ _ [_, _] _ := hs
    replace hL := hL.mono hG23
    replace ht := ht.mono hG23
    replace hf := hf.mono hG23
    replace hu21 := hu21.mono hG23
    refine O_y hs (Y_move rfl ?_)
    refine O_y hs (Y_extract rfl rfl ?_)
    refine O_y hs (Y_extract rfl rfl ?_)
    refine O_y hs (Y_assign rfl ?_)
    refine O_y hs (Y_assign rfl ?_)
    refine O_nil (T_sub [(1, _), (3, _), (4, _), (5, _), (6, _)] ⟨rfl, rfl, rfl, rfl, rfl, trivial⟩ ?_)
    refine T_region rfl ?_
    refine O_y hs (Y_move rfl ?_)
    refine O_y hs (Y_move rfl ?_)
    refine O_s (S_append hs Try.underlying23 TI5 rfl (by decide) rfl rfl (hu23) (byteV_one) (by rw [frameL_length]; have := h40 _ (List.getElem_mem (show k < (fewF L).length by omega)); omega) (by rw [frameL_length]; have := h40 _ (List.getElem_mem (show k < (fewF L).length by omega)); omega) fun v4 _ hs => ?_)
    refine O_y hs (Y_assign rfl ?_)
    refine O_nil (T_sub [(1, _), (3, _), (4, _), (5, _)] ⟨rfl, rfl, rfl, rfl, trivial⟩ ?_)
    refine T_region rfl ?_
    refine O_y hs (Y_move rfl ?_)
    refine O_y hs (Y_add (c := ((k + 1 : Nat) : Int)) rfl rfl (by omega) (by omega) ?_)
    refine O_y hs (Y_assign rfl ?_)
    refine O_nil ⟨_, ?_, [(1, _), (3, _), (4, _), (5, _)], ⟨rfl, rfl, rfl, rfl, trivial⟩, ⟨k + 1, _, _, by omega, rfl, rfl, hf, by rw [wire_succ _ k (by omega), List.length_append, List.map_append]; exact hs⟩⟩
    omega
  · -- h15: False
    dsimp only [cmpP] at h15
    refine O_nil (T_sub [(1, _), (3, _), (4, _), (5, _), (15, _)] ⟨rfl, rfl, rfl, rfl, rfl, trivial⟩ ?_)
    refine T_condF rfl (T_exit ?_)
    refine T_seq (T_region rfl ?_)
    refine O_y hs (Y_move rfl ?_)
    refine O_y hs (Y_fieldAddr FO26_1 rfl (m := 1) rfl ?_)
    refine O_y hs (Y_ld 1 Try.isAgg23 rfl rfl rfl ?_)
    refine O_y hs (Y_fieldAddr FO26_1 rfl (m := 1) rfl ?_)
    refine O_y hs (Y_ld 1 Try.isAgg23 rfl rfl rfl ?_)
    refine O_y hs (Y_len Try.underlying23 rfl ?_)
    refine O_y hs (Y_min (c := ((min tail.length 60 : Nat) : Int)) rfl rfl (by omega) ?_)
    refine O_y hs (Y_sliceB ht 0 (min tail.length 60) Try.underlying23 Try.sizeOf5 rfl rfl ⟨_, _, rfl, rfl⟩ (by omega) (by omega) fun s36 hs36 => ?_)
    obtain ⟨A36, c36, rfl, _⟩ := id hs36
    refine O_s (S_append hs Try.underlying23 TI5 rfl (by decide) rfl rfl (hs36) (byteV_one) (by rw [List.length_take, List.length_drop]; omega) (by rw [List.length_take, List.length_drop]; omega) fun v5 _ hs => ?_)
    refine O_y hs (Y_assign rfl ?_)
    refine O_nil (T_sub [(2, _)] ⟨rfl, trivial⟩ ?_)
    refine T_ret ?_
    refine Rt_fin (vs := [_]) Try.results12 rfl ⟨rfl, trivial⟩ ?_
    try dsimp only [tup]
    obtain rfl : k = (fewF L).length := by omega
    rw [List.take_length] at hs
    replace hs := hs.weak hs.le (Ghost.le.refl _) (H := [_]) (List.Sublist.cons_cons _ (List.nil_sublist _))
    exact ⟨_, _, hs, by rw [← wireF_eq L tail, List.length_append, List.map_append]⟩

set_option maxHeartbeats 400000 in
set_option maxRecDepth 10000 in
theorem law9 {vl0 vM : Value} {G : Ghost} {l : List (List UInt8)} {z : Nat} {M : List UInt8} (hl : LBytes G vl0 l) (hz : z ≤ 65535) (hM : Bytes G vM M) :
    FnOk Try.prog 9 [vl0, .int .u16 (z : Int), vM] G [] fun r _ H' => H' = [] ∧ r = .bool true := by
  obtain ⟨vl, hl1, hl2⟩ := id hl
  obtain ⟨AL, cL, rfl, hl3⟩ := id hl1
  obtain ⟨AM, cM, rfl, _⟩ := id hM
  have hG9 := wire_gives l
  have hq1 := feed_big (l := l) (z := z) hz ((M.drop 0).take (min M.length 40 - 0))
  have hq2 := feed_after (l := l) ((M.drop 0).take (min M.length 40 - 0))
  refine FnOk.of_T [(0, _), (1, _), (2, _)] Try.func9 rfl Try.ntmps9 (by simp) rfl fun w0 hs => ?_
  have hl0 := hl
  have hM0 := hM
  have h40 := fewF_le l
  have h12 := fewF_len l
  have hwl := wireF_len (fewF l) []
  have hf12 := Nat.le_trans (List.length_filter_le (fun x : List UInt8 => decide (0 < x.length)) (fewF l)) h12
  refine T_seq (T_region rfl ?_)
  refine O_y hs (Y_assign rfl ?_)
  refine O_nil (T_sub [(0, _), (1, _), (2, _)] ⟨rfl, rfl, rfl, trivial⟩ ?_)
  refine T_seq (T_region rfl ?_)
  refine O_s (S_call (H1 := []) hs rfl Try.func11 rfl (by kernel_rfl) (sanity_ok) fun v1 G' H' _ hR hG21 hs => ?_)
  obtain ⟨rfl, rfl⟩ := hR
  replace hs : St _ _ [] _ := hs
  replace hl := hl.mono hG21
  replace hM := hM.mono hG21
  refine O_y hs (Y_assign rfl ?_)
  refine O_nil (T_sub [(0, _), (1, _), (2, _), (7, _)] ⟨rfl, rfl, rfl, rfl, trivial⟩ ?_)
  refine T_seq (T_region rfl ?_)
  refine O_y hs (Y_move rfl ?_)
  refine O_s (S_call (H1 := []) hs rfl Try.func28 rfl (by kernel_rfl) (few_ok hl) fun v2 G' H' _ hR hG23 hs => ?_)
  obtain ⟨rfl, hX⟩ := hR
  replace hs : St _ _ [] _ := hs
  replace hl := hl.mono hG23
  replace hM := hM.mono hG23
  obtain ⟨vf, hf1, hf2⟩ := id hX
  obtain ⟨A10, c10, rfl, _⟩ := id hf1
  refine O_y hs (Y_assign rfl ?_)
  refine O_nil (T_sub [(1, _), (2, _), (7, _), (8, _)] ⟨rfl, rfl, rfl, rfl, trivial⟩ ?_)
  refine T_seq (T_region rfl ?_)
  refine O_y hs (Y_move rfl ?_)
  refine O_y hs (Y_build Try.zeroValue26 rfl PL26 rfl (cs := [_, _, _]) rfl ?_)
  refine O_s (S_call (H1 := []) hs rfl Try.func12 rfl (by kernel_rfl) (bytes_own (L := fewF l) (tail := []) hX (Sl.nil _ _) rfl) fun v3 G' H' _ hR hG26 hs => ?_)
  obtain rfl := hR
  replace hs : St _ _ [_] _ := hs
  replace hl := hl.mono hG26
  replace hM := hM.mono hG26
  replace hX := hX.mono hG26
  refine O_y hs (Y_assign rfl ?_)
  refine O_nil (T_sub [(1, _), (2, _), (7, _), (8, _), (9, _)] ⟨rfl, rfl, rfl, rfl, rfl, trivial⟩ ?_)
  refine T_seq (T_region rfl ?_)
  refine O_y hs (Y_move rfl ?_)
  refine O_y hs (Y_conv Try.underlying49 Try.underlying3 (c := (z : Int)) rfl (wrap64_eq (by omega)) ?_)
  refine O_y hs (Y_rem (c := ((z % 61439 : Nat) : Int)) rfl rfl (by omega) (by omega) (by omega) ?_)
  refine O_y hs (Y_add (c := (((4097 + z % 61439) : Nat) : Int)) rfl rfl (by omega) (by omega) ?_)
  refine O_y hs (Y_assign rfl ?_)
  refine O_nil (T_sub [(2, _), (7, _), (8, _), (9, _), (10, _)] ⟨rfl, rfl, rfl, rfl, rfl, trivial⟩ ?_)
  refine T_seq (T_region rfl ?_)
  refine O_y hs (Y_move rfl ?_)
  refine O_y hs (Y_move rfl ?_)
  refine O_y hs (Y_quo (c := (((4097 + z % 61439) / 256 : Nat) : Int)) rfl rfl ⟨by omega, by omega⟩ (by omega) (by omega) ?_)
  refine O_y hs (Y_conv Try.underlying3 Try.underlying5 rfl (u8wrap _) ?_)
  refine O_y hs (Y_move rfl ?_)
  refine O_y hs (Y_rem (c := (((4097 + z % 61439) % 256 : Nat) : Int)) rfl rfl (by omega) (by omega) (by omega) ?_)
  refine O_y hs (Y_conv Try.underlying3 Try.underlying5 rfl (u8wrap _) ?_)
  refine O_s (S_lit hs Try.underlying23 Try.sizeOf5 Try.zeroValue5 rfl rfl (by decide) (by decide) rfl (cs := [_, _]) rfl rfl fun v4 _ hs _ => ?_)
  obtain ⟨_, hG38, hl38, hs⟩ := hs.fixRow noM
  replace hl := hl.mono hG38
  replace hM := hM.mono hG38
  replace hX := hX.mono hG38
  refine O_s (S_append hs Try.underlying23 TI5 rfl (by decide) rfl rfl ((Bytes.ofSl (bs := [UInt8.ofNat ((4097 + z % 61439) / 256), UInt8.ofNat ((4097 + z % 61439) % 256)]) hl38 rfl rfl)) (byteV_one) (by first | omega | (simp; omega) | simp) (by first | omega | (simp; omega) | simp) fun v5 _ hs => ?_)
  refine O_y hs (Y_assign rfl ?_)
  refine O_nil (T_sub [(2, _), (7, _), (8, _), (9, _)] ⟨rfl, rfl, rfl, rfl, trivial⟩ ?_)
  refine T_seq (T_region rfl ?_)
  refine O_y hs (Y_move rfl ?_)
  refine O_y hs (Y_move rfl ?_)
  refine O_y hs (Y_move rfl ?_)
  refine O_y hs (Y_len Try.underlying23 rfl ?_)
  refine O_y hs (Y_min (c := ((min M.length 40 : Nat) : Int)) rfl rfl (by omega) ?_)
  refine O_y hs (Y_sliceB hM 0 (min M.length 40) Try.underlying23 Try.sizeOf5 rfl rfl ⟨_, _, rfl, rfl⟩ (by omega) (by omega) fun s45 hs45 => ?_)
  obtain ⟨A45, c45, rfl, _⟩ := id hs45
  refine O_s (S_append hs Try.underlying23 TI5 rfl (by decide) rfl rfl (hs45) (byteV_one) (by first | omega | (simp; omega) | simp) (by first | omega | (simp; omega) | simp) fun v6 _ hs => ?_)
  refine O_y hs (Y_assign rfl ?_)
  refine O_nil (T_sub [(2, _), (7, _), (8, _), (9, _)] ⟨rfl, rfl, rfl, rfl, trivial⟩ ?_)
  obtain ⟨_, hGf, hf, hs2⟩ := hs.fixRow noM
  have hs := hs2
  replace hl := hl.mono hGf
  replace hM := hM.mono hGf
  replace hX := hX.mono hGf
  replace hs45 := hs45.mono hGf
  have hw := Bytes.ofSl (bs := ((wireF (fewF l) []) ++ [UInt8.ofNat ((4097 + z % 61439) / 256), UInt8.ofNat ((4097 + z % 61439) % 256)] ++ ((M.drop 0).take (min M.length 40 - 0)))) hf (by simp only [List.length_append]) (by simp only [List.map_append])
  obtain ⟨Aw, cw, rfl, _⟩ := id hw
  have hs := hs2
  refine T_seq (T_region rfl ?_)
  refine O_s (S_call (H1 := []) hs rfl Try.func15 rfl (by kernel_rfl) (new_eq (⟨[], 20, false⟩, 0) (by decide)) fun v7 G' H' _ hR hG48 hs => ?_)
  obtain ⟨rfl, dv48, rfl, u48, rfl, hu48⟩ := hR
  replace hs : St _ _ [] _ := hs
  replace hl := hl.mono hG48
  replace hM := hM.mono hG48
  replace hX := hX.mono hG48
  replace hs45 := hs45.mono hG48
  replace hw := hw.mono hG48
  obtain ⟨Au48, cu48, rfl, _⟩ := id hu48
  refine O_y hs (Y_move rfl ?_)
  refine O_y hs (Y_extract rfl rfl ?_)
  refine O_y hs (Y_extract rfl rfl ?_)
  refine O_s (S_alloc hs Try.zeroValue28 (cs := [_, _, _]) rfl fun b11 _ hs => ?_)
  refine O_n (S_stA hs Try.sizeOf28 rfl rfl (vs := [_, _, _]) rfl rfl (by simp) (cs' := [_, _, _]) rfl fun _ hs => ?_)
  refine O_y hs (Y_assign rfl ?_)
  refine O_nil (T_sub [(2, _), (7, _), (8, _), (9, _), (11, _)] ⟨rfl, rfl, rfl, rfl, rfl, trivial⟩ ?_)
  refine T_seq (T_region rfl ?_)
  refine O_y hs (Y_ldA 0 Try.isAgg28 Try.sizeOf28 rfl rfl (vs := [_, _, _]) rfl rfl ?_)
  refine O_y hs (Y_move rfl ?_)
  refine O_s (S_call (H1 := []) hs rfl Try.func13 rfl (by kernel_rfl) (feed_eq (d := ⟨[], 20, false⟩) _ ⟨_, rfl, hu48⟩ hw (by simp; omega) hq1) fun v8 G' H' _ hR hG54 hs => ?_)
  obtain ⟨rfl, dv54, mv54, rfl, ⟨u54, rfl, hu54⟩, hm54⟩ := hR
  replace hs : St _ _ [_] _ := hs
  replace hl := hl.mono hG54
  replace hM := hM.mono hG54
  replace hX := hX.mono hG54
  replace hs45 := hs45.mono hG54
  replace hw := hw.mono hG54
  replace hu48 := hu48.mono hG54
  obtain ⟨Au54, cu54, rfl, _⟩ := id hu54
  obtain ⟨vs54, hsl54, hvs54⟩ := id hm54
  obtain ⟨A54, c54, rfl, _⟩ := id hsl54
  refine O_y hs (Y_move rfl ?_)
  refine O_y hs (Y_extract rfl rfl ?_)
  refine O_y hs (Y_extract rfl rfl ?_)
  refine O_y hs (Y_extract rfl rfl ?_)
  refine O_s (S_alloc hs Try.zeroValue28 (cs := [_, _, _]) rfl fun b13 _ hs => ?_)
  refine O_n (S_stA hs Try.sizeOf28 rfl rfl (vs := [_, _, _]) rfl rfl (by simp) (cs' := [_, _, _]) rfl fun _ hs => ?_)
  refine O_y hs (Y_assign rfl ?_)
  refine O_y hs (Y_assign rfl ?_)
  refine O_nil (T_sub [(2, _), (7, _), (8, _), (13, _), (14, _), (15, _)] ⟨rfl, rfl, rfl, rfl, rfl, rfl, trivial⟩ ?_)
  refine T_seq (T_drawS [0, 1, 2, 3, 4, 5, 6, 7, 8, 11] hs (by kernel_rfl) ?_)
  replace hs := hs.drew
  refine A_take 0 rfl (by kernel_rfl) rfl hs (Y_ldA 0 Try.isAgg28 Try.sizeOf28 rfl rfl (vs := [_, _, _]) rfl rfl ?_)
  refine A_take 1 rfl (by kernel_rfl) rfl hs (Y_move rfl ?_)
  refine A_take 2 rfl (by kernel_rfl) rfl hs (Y_move rfl ?_)
  refine A_take 3 rfl (by kernel_rfl) rfl hs (Y_len Try.underlying23 rfl ?_)
  refine A_take 4 rfl (by kernel_rfl) rfl hs (Y_min (c := ((min M.length 40 : Nat) : Int)) rfl rfl (by omega) ?_)
  refine A_take 5 rfl (by kernel_rfl) rfl hs (Y_sliceB hM 0 (min M.length 40) Try.underlying23 Try.sizeOf5 rfl rfl ⟨_, _, rfl, rfl⟩ (by omega) (by omega) fun s64 hs64 => ?_)
  obtain ⟨A64, c64, rfl, _⟩ := id hs64
  refine A_two 6 11 rfl rfl (by kernel_rfl) rfl rfl ?_ ?_
  · -- operation 6 comes up
    have hle := hs.le
    refine S_call (H1 := []) hs rfl Try.func13 rfl (by kernel_rfl) (feed_eq (d := ⟨[], (20 - (((fewF l).filter fun x => decide (0 < x.length)).length : Int)), true⟩) _ ⟨_, rfl, hu54⟩ hs64 (by rw [List.length_take, List.length_drop]; omega) hq2) fun v9 G' H' _ hR hG65 hs => ?_
    obtain ⟨rfl, dv65, mv65, rfl, ⟨u65, rfl, hu65⟩, hm65⟩ := hR
    replace hs : St _ _ [_, _] _ := hs
    replace hl := hl.mono hG65
    replace hM := hM.mono hG65
    replace hX := hX.mono hG65
    replace hs45 := hs45.mono hG65
    replace hw := hw.mono hG65
    replace hu48 := hu48.mono hG65
    replace hu54 := hu54.mono hG65
    replace hm54 := hm54.mono hG65
    replace hs64 := hs64.mono hG65
    obtain ⟨Au65, cu65, rfl, _⟩ := id hu65
    obtain ⟨vs65, hsl65, hvs65⟩ := id hm65
    obtain ⟨A65, c65, rfl, _⟩ := id hsl65
    refine A_moreS hs hle hG65 (List.Sublist.refl _) ?_
    refine A_take 7 rfl (by kernel_rfl) rfl hs (Y_move rfl ?_)
    refine A_pure 9 rfl (by kernel_rfl) rfl (Y_extract rfl rfl ?_)
    refine A_pure 10 rfl (by kernel_rfl) rfl (Y_extract rfl rfl ?_)
    refine A_take 8 rfl (by kernel_rfl) rfl hs (Y_extract rfl rfl ?_)
    have hle := hs.le
    refine A_only 11 rfl (by kernel_rfl) rfl (S_alloc hs Try.zeroValue28 (cs := [_, _, _]) rfl fun b16 _ hs => ?_)
    refine A_moreS hs hle (Ghost.le.refl _) (List.sublist_cons_self _ _) ?_
    refine A_tailN 12 rfl (by kernel_rfl) (by kernel_rfl) rfl (S_stA hs Try.sizeOf28 rfl rfl (vs := [_, _, _]) rfl rfl (by simp) (cs' := [_, _, _]) rfl fun _ hs => ?_)
    refine A_tail 13 rfl (by kernel_rfl) (by kernel_rfl) rfl (S_y hs rfl (Y_assign rfl ?_))
    refine A_tail 14 rfl (by kernel_rfl) (by kernel_rfl) rfl (S_y hs rfl (Y_assign rfl ?_))
    refine A_done (by kernel_rfl) (T_sub [(7, _), (8, _), (13, _), (14, _), (15, _), (16, _), (17, _), (18, _)] ⟨rfl, rfl, rfl, rfl, rfl, rfl, rfl, rfl, trivial⟩ ?_)
    refine T_seq (T_region rfl ?_)
    refine O_s (S_lit hs Try.underlying22 Try.sizeOf23 Try.zeroValue23 rfl rfl (by decide) (by decide) rfl (cs := []) rfl rfl fun v10 _ hs _ => ?_)
    refine O_y hs (Y_assign rfl ?_)
    refine O_nil (T_sub [(7, _), (8, _), (13, _), (14, _), (15, _), (16, _), (17, _), (18, _), (19, _)] ⟨rfl, rfl, rfl, rfl, rfl, rfl, rfl, rfl, rfl, trivial⟩ ?_)
    refine T_seq (T_seq (T_region rfl ?_))
    refine O_y hs (Y_assign rfl ?_)
    refine O_nil (T_sub [(7, _), (8, _), (13, _), (14, _), (15, _), (16, _), (17, _), (18, _), (19, _), (20, _)] ⟨rfl, rfl, rfl, rfl, rfl, rfl, rfl, rfl, rfl, rfl, trivial⟩ ?_)
    refine T_block (T_loop (fun m E w => ∃ (k : Nat) (v9 : Value) (vs : List Value) (G' : Ghost), k ≤ (fewF l).length ∧ vs.length ≤ k ∧ LB G' vs (((fewF l).take k).filter fun x => decide (0 < x.length)) ∧ LBytes G' (.slice A10 (fewF l).length c10) (fewF l) ∧ Bytes G' (.slice Au54 0 cu54) [] ∧ LBytes G' (.slice A54 ((fewF l).filter fun x => decide (0 < x.length)).length c54) ((fewF l).filter fun x => decide (0 < x.length)) ∧ Bytes G' (.slice Au65 0 cu65) [] ∧ LBytes G' (.slice A65 0 c65) [] ∧ m = (fewF l).length - k ∧ E = ⟨[], [(7, .bool true), (8, (.slice A10 (fewF l).length c10)), (13, .pointer (some ⟨b13, 0, none⟩)), (14, .slice A54 ((fewF l).filter fun x => decide (0 < x.length)).length c54), (15, .int .i64 4), (16, .pointer (some ⟨b16, 0, none⟩)), (17, .slice A65 0 c65), (18, .int .i64 7), (19, v9), (20, .int .i64 (k : Int))]⟩ ∧ St ⟨w0, G, feet []⟩ G' [.row 23 1 v9 vs.length vs, .blk b16 28 [.slice Au65 0 cu65, .int .i64 (20 - (((fewF l).filter fun x => decide (0 < x.length)).length : Int)), .bool true], .blk b13 28 [.slice Au54 0 cu54, .int .i64 (20 - (((fewF l).filter fun x => decide (0 < x.length)).length : Int)), .bool true], .blk b11 28 [.slice Au48 0 cu48, .int .i64 20, .bool false]] w) (L := [(7, _), (8, _), (13, _), (14, _), (15, _), (16, _), (17, _), (18, _), (19, _), (20, _)]) ⟨rfl, rfl, rfl, rfl, rfl, rfl, rfl, rfl, rfl, rfl, trivial⟩ (⟨0, _, [], _, by omega, by simp, LB.nil _, hX, hu54, hm54, hu65, hm65, rfl, rfl, hs⟩) fun m E w hI => ?_)
    obtain ⟨k, v9, vs, G', hk, hvl, hvs, hX, hu54, hm54, hu65, hm65, rfl, rfl, hs⟩ := hI
    refine T_seq (T_seq (T_region rfl ?_))
    refine O_y hs (Y_move rfl ?_)
    refine O_y hs (Y_move rfl ?_)
    refine O_y hs (Y_len Try.underlying22 rfl ?_)
    refine O_y hs (Y_cmpS rfl rfl rfl (fun h73 => ?_) (fun h73 => ?_))
    · -- h73: True
      dsimp only [cmpP] at h73
      refine O_nil (T_sub [(7, _), (8, _), (13, _), (14, _), (15, _), (16, _), (17, _), (18, _), (19, _), (20, _), (73, _)] ⟨rfl, rfl, rfl, rfl, rfl, rfl, rfl, rfl, rfl, rfl, rfl, trivial⟩ ?_)
      refine T_condT rfl (T_skip ?_)
      refine T_seq (T_block (T_seq (T_region rfl ?_)))
      refine O_y hs (Y_move rfl ?_)
      refine O_y hs (Y_move rfl ?_)
      refine O_y hs (Y_idxL hX k Try.underlying22 Try.sizeOf23 rfl rfl rfl (by omega) fun p78 u78 hp78 hu78 => ?_)
      obtain ⟨A78, c78, rfl, _⟩ := id hu78
      refine O_y hs (Y_ldG Try.isAgg23 rfl hp78 ?_)
      refine O_y hs (Y_len Try.underlying23 rfl ?_)
      refine O_y hs (Y_cmpS rfl rfl rfl (fun h81 => ?_) (fun h81 => ?_))
      · -- h81: True
        dsimp only [cmpP] at h81
        refine O_nil (T_sub [(7, _), (8, _), (13, _), (14, _), (15, _), (16, _), (17, _), (18, _), (19, _), (20, _), (81, _)] ⟨rfl, rfl, rfl, rfl, rfl, rfl, rfl, rfl, rfl, rfl, rfl, trivial⟩ ?_)
        refine T_condT rfl (T_region rfl ?_)
        refine O_y hs (Y_move rfl ?_)
        refine O_y hs (Y_move rfl ?_)
        refine O_y hs (Y_move rfl ?_)
        refine O_y hs (Y_idxL hX k Try.underlying22 Try.sizeOf23 rfl rfl rfl (by omega) fun p85 u85 hp85 hu85 => ?_)
        obtain ⟨A85, c85, rfl, _⟩ := id hu85
        refine O_y hs (Y_ldG Try.isAgg23 rfl hp85 ?_)
        refine O_s (S_lit hs Try.underlying22 Try.sizeOf23 Try.zeroValue23 rfl rfl (by decide) (by decide) rfl (cs := [_]) rfl rfl fun v11 _ hs _ => ?_)
        obtain ⟨_, hG87, hl87, hs⟩ := hs.fixRow noM
        replace hX := hX.mono hG87
        replace hvs := hvs.mono hG87
        replace hu54 := hu54.mono hG87
        replace hm54 := hm54.mono hG87
        replace hu65 := hu65.mono hG87
        replace hm65 := hm65.mono hG87
        replace hu78 := hu78.mono hG87
        replace hu85 := hu85.mono hG87
        refine O_s (S_append hs Try.underlying22 TI23 rfl (by decide) rfl rfl (hl87) (one1 rfl) (by omega) (by omega) fun v12 _ hs => ?_)
        refine O_y hs (Y_assign rfl ?_)
        refine O_nil (T_sub [(7, _), (8, _), (13, _), (14, _), (15, _), (16, _), (17, _), (18, _), (19, _), (20, _)] ⟨rfl, rfl, rfl, rfl, rfl, rfl, rfl, rfl, rfl, rfl, trivial⟩ ?_)
        refine T_region rfl ?_
        refine O_y hs (Y_move rfl ?_)
        refine O_y hs (Y_add (c := ((k + 1 : Nat) : Int)) rfl rfl (by omega) (by omega) ?_)
        refine O_y hs (Y_assign rfl ?_)
        have hfs := filt_succ (fewF l) k (by omega)
        rw [if_pos (by omega)] at hfs
        refine O_nil ⟨_, ?_, [(7, _), (8, _), (13, _), (14, _), (15, _), (16, _), (17, _), (18, _), (19, _), (20, _)], ⟨rfl, rfl, rfl, rfl, rfl, rfl, rfl, rfl, rfl, rfl, trivial⟩, ⟨k + 1, _, vs ++ [_], _, by omega, by simp; omega, by rw [hfs]; exact hvs.snoc hu85, hX, hu54, hm54, hu65, hm65, rfl, rfl, by rw [List.length_append]; exact hs⟩⟩
        omega
      · -- h81: False
        dsimp only [cmpP] at h81
        refine O_nil (T_sub [(7, _), (8, _), (13, _), (14, _), (15, _), (16, _), (17, _), (18, _), (19, _), (20, _), (81, _)] ⟨rfl, rfl, rfl, rfl, rfl, rfl, rfl, rfl, rfl, rfl, rfl, trivial⟩ ?_)
        refine T_condF rfl (T_skip ?_)
        refine T_region rfl ?_
        refine O_y hs (Y_move rfl ?_)
        refine O_y hs (Y_add (c := ((k + 1 : Nat) : Int)) rfl rfl (by omega) (by omega) ?_)
        refine O_y hs (Y_assign rfl ?_)
        have hfs := filt_succ (fewF l) k (by omega)
        rw [if_neg (by omega), List.append_nil] at hfs
        refine O_nil ⟨_, ?_, [(7, _), (8, _), (13, _), (14, _), (15, _), (16, _), (17, _), (18, _), (19, _), (20, _)], ⟨rfl, rfl, rfl, rfl, rfl, rfl, rfl, rfl, rfl, rfl, trivial⟩, ⟨k + 1, _, vs, _, by omega, by omega, by rw [hfs]; exact hvs, hX, hu54, hm54, hu65, hm65, rfl, rfl, hs⟩⟩
        omega
    · -- h73: False
      dsimp only [cmpP] at h73
      refine O_nil (T_sub [(7, _), (8, _), (13, _), (14, _), (15, _), (16, _), (17, _), (18, _), (19, _), (20, _), (73, _)] ⟨rfl, rfl, rfl, rfl, rfl, rfl, rfl, rfl, rfl, rfl, rfl, trivial⟩ ?_)
      refine T_condF rfl (T_exit ?_)
      obtain ⟨_, hGf, hf, hs2⟩ := hs.fixRow noM
      have hs := hs2
      replace hX := hX.mono hGf
      replace hvs := hvs.mono hGf
      replace hu54 := hu54.mono hGf
      replace hm54 := hm54.mono hGf
      replace hu65 := hu65.mono hGf
      replace hm65 := hm65.mono hGf
      rw [List.take_of_length_le (by omega)] at hvs
      have hwant := LBytes.of hf hvs
      obtain ⟨vsw, hslw, hvsw⟩ := id hwant
      obtain ⟨Awa, cwa, rfl, _⟩ := id hslw
      have hs := hs2
      refine T_seq (T_region rfl ?_)
      refine O_y hs (Y_move rfl ?_)
      refine O_y hs (Y_cmpT rfl rfl rfl (rfl) ?_)
      refine O_y hs (Y_move rfl ?_)
      refine O_yy 91 hs rfl rfl (Y_fieldAddr FO28_2 rfl (m := 2) rfl ?_)
      refine O_yy 91 hs rfl rfl (Y_ld 1 Try.isAgg4 rfl rfl rfl ?_)
      refine O_y hs (Y_pickT rfl rfl ?_)
      refine O_y hs (Y_move rfl ?_)
      refine O_yy 95 hs rfl rfl (Y_move rfl ?_)
      refine O_yy 95 hs rfl rfl (Y_move rfl ?_)
      refine O_yes 95 rfl rfl (S_call (H1 := []) hs rfl Try.func22 rfl (by kernel_rfl) (sameBytes_eq hm54 hwant (by show (List.filter _ _).length ≤ _; omega) true (by simp)) fun v13 G' H' _ hR hG98 hs => ?_)
      obtain ⟨rfl, rfl⟩ := hR
      replace hs : St _ _ [_, _, _] _ := hs
      replace hX := hX.mono hG98
      replace hvs := hvs.mono hG98
      replace hu54 := hu54.mono hG98
      replace hm54 := hm54.mono hG98
      replace hu65 := hu65.mono hG98
      replace hm65 := hm65.mono hG98
      replace hwant := hwant.mono hG98
      refine O_y hs (Y_pickT rfl rfl ?_)
      refine O_y hs (Y_move rfl ?_)
      refine O_yy 100 hs rfl rfl (Y_move rfl ?_)
      refine O_yy 100 hs rfl rfl (Y_cmpT rfl rfl rfl (rfl) ?_)
      refine O_y hs (Y_pickT rfl rfl ?_)
      refine O_y hs (Y_move rfl ?_)
      refine O_yy 104 hs rfl rfl (Y_move rfl ?_)
      refine O_yy 104 hs rfl rfl (Y_len Try.underlying22 rfl ?_)
      refine O_yy 104 hs rfl rfl (Y_cmpT rfl rfl rfl (rfl) ?_)
      refine O_y hs (Y_pickT rfl rfl ?_)
      refine O_y hs (Y_move rfl ?_)
      refine O_yy 109 hs rfl rfl (Y_ldA 1 Try.isAgg28 Try.sizeOf28 rfl rfl (vs := [_, _, _]) rfl rfl ?_)
      refine O_yy 109 hs rfl rfl (Y_ldA 0 Try.isAgg28 Try.sizeOf28 rfl rfl (vs := [_, _, _]) rfl rfl ?_)
      refine O_yes 109 rfl rfl (S_call (H1 := []) hs rfl Try.func21 rfl (by kernel_rfl) (same_eq (d := ⟨[], (20 - (((fewF l).filter fun x => decide (0 < x.length)).length : Int)), true⟩) (e := ⟨[], (20 - (((fewF l).filter fun x => decide (0 < x.length)).length : Int)), true⟩) ⟨_, rfl, hu54⟩ ⟨_, rfl, hu65⟩ true (by simp)) fun v14 G' H' _ hR hG112 hs => ?_)
      obtain ⟨rfl, rfl⟩ := hR
      replace hs : St _ _ [_, _, _] _ := hs
      replace hX := hX.mono hG112
      replace hvs := hvs.mono hG112
      replace hu54 := hu54.mono hG112
      replace hm54 := hm54.mono hG112
      replace hu65 := hu65.mono hG112
      replace hm65 := hm65.mono hG112
      replace hwant := hwant.mono hG112
      refine O_y hs (Y_pickT rfl rfl ?_)
      refine O_y hs (Y_move rfl ?_)
      refine O_yy 114 hs rfl rfl (Y_move rfl ?_)
      refine O_y hs (Y_pickT rfl rfl ?_)
      refine O_y hs (Y_assign rfl ?_)
      refine O_nil (T_sub [(6, _)] ⟨rfl, trivial⟩ ?_)
      refine T_ret ?_
      refine Rt_fin (vs := [_]) Try.results9 rfl ⟨rfl, trivial⟩ ?_
      try dsimp only [tup]
      exact ⟨_, [], hs.done, rfl, rfl⟩
  · -- operation 11 comes up
    have hle := hs.le
    refine S_alloc hs Try.zeroValue28 (cs := [_, _, _]) rfl fun b16 _ hs => ?_
    refine A_moreS hs hle (Ghost.le.refl _) (List.sublist_cons_self _ _) ?_
    have hle := hs.le
    refine A_only 6 rfl (by kernel_rfl) rfl (S_call (H1 := []) hs rfl Try.func13 rfl (by kernel_rfl) (feed_eq (d := ⟨[], (20 - (((fewF l).filter fun x => decide (0 < x.length)).length : Int)), true⟩) _ ⟨_, rfl, hu54⟩ hs64 (by rw [List.length_take, List.length_drop]; omega) hq2) fun v15 G' H' _ hR hG65 hs => ?_)
    obtain ⟨rfl, dv65, mv65, rfl, ⟨u65, rfl, hu65⟩, hm65⟩ := hR
    replace hs : St _ _ [_, _, _] _ := hs
    replace hl := hl.mono hG65
    replace hM := hM.mono hG65
    replace hX := hX.mono hG65
    replace hs45 := hs45.mono hG65
    replace hw := hw.mono hG65
    replace hu48 := hu48.mono hG65
    replace hu54 := hu54.mono hG65
    replace hm54 := hm54.mono hG65
    replace hs64 := hs64.mono hG65
    obtain ⟨Au65, cu65, rfl, _⟩ := id hu65
    obtain ⟨vs65, hsl65, hvs65⟩ := id hm65
    obtain ⟨A65, c65, rfl, _⟩ := id hsl65
    refine A_moreS hs hle hG65 (List.Sublist.refl _) ?_
    refine A_take 7 rfl (by kernel_rfl) rfl hs (Y_move rfl ?_)
    refine A_pure 9 rfl (by kernel_rfl) rfl (Y_extract rfl rfl ?_)
    refine A_pure 10 rfl (by kernel_rfl) rfl (Y_extract rfl rfl ?_)
    refine A_take 8 rfl (by kernel_rfl) rfl hs (Y_extract rfl rfl ?_)
    refine A_tailN 12 rfl (by kernel_rfl) (by kernel_rfl) rfl (S_stA hs Try.sizeOf28 rfl rfl (vs := [_, _, _]) rfl rfl (by simp) (cs' := [_, _, _]) rfl fun _ hs => ?_)
    refine A_tail 13 rfl (by kernel_rfl) (by kernel_rfl) rfl (S_y hs rfl (Y_assign rfl ?_))
    refine A_tail 14 rfl (by kernel_rfl) (by kernel_rfl) rfl (S_y hs rfl (Y_assign rfl ?_))
    refine A_done (by kernel_rfl) (T_sub [(7, _), (8, _), (13, _), (14, _), (15, _), (16, _), (17, _), (18, _)] ⟨rfl, rfl, rfl, rfl, rfl, rfl, rfl, rfl, trivial⟩ ?_)
    refine T_seq (T_region rfl ?_)
    refine O_s (S_lit hs Try.underlying22 Try.sizeOf23 Try.zeroValue23 rfl rfl (by decide) (by decide) rfl (cs := []) rfl rfl fun v16 _ hs _ => ?_)
    refine O_y hs (Y_assign rfl ?_)
    refine O_nil (T_sub [(7, _), (8, _), (13, _), (14, _), (15, _), (16, _), (17, _), (18, _), (19, _)] ⟨rfl, rfl, rfl, rfl, rfl, rfl, rfl, rfl, rfl, trivial⟩ ?_)
    refine T_seq (T_seq (T_region rfl ?_))
    refine O_y hs (Y_assign rfl ?_)
    refine O_nil (T_sub [(7, _), (8, _), (13, _), (14, _), (15, _), (16, _), (17, _), (18, _), (19, _), (20, _)] ⟨rfl, rfl, rfl, rfl, rfl, rfl, rfl, rfl, rfl, rfl, trivial⟩ ?_)
    refine T_block (T_loop (fun m E w => ∃ (k : Nat) (v9 : Value) (vs : List Value) (G' : Ghost), k ≤ (fewF l).length ∧ vs.length ≤ k ∧ LB G' vs (((fewF l).take k).filter fun x => decide (0 < x.length)) ∧ LBytes G' (.slice A10 (fewF l).length c10) (fewF l) ∧ Bytes G' (.slice Au54 0 cu54) [] ∧ LBytes G' (.slice A54 ((fewF l).filter fun x => decide (0 < x.length)).length c54) ((fewF l).filter fun x => decide (0 < x.length)) ∧ Bytes G' (.slice Au65 0 cu65) [] ∧ LBytes G' (.slice A65 0 c65) [] ∧ m = (fewF l).length - k ∧ E = ⟨[], [(7, .bool true), (8, (.slice A10 (fewF l).length c10)), (13, .pointer (some ⟨b13, 0, none⟩)), (14, .slice A54 ((fewF l).filter fun x => decide (0 < x.length)).length c54), (15, .int .i64 4), (16, .pointer (some ⟨b16, 0, none⟩)), (17, .slice A65 0 c65), (18, .int .i64 7), (19, v9), (20, .int .i64 (k : Int))]⟩ ∧ St ⟨w0, G, feet []⟩ G' [.row 23 1 v9 vs.length vs, .blk b16 28 [.slice Au65 0 cu65, .int .i64 (20 - (((fewF l).filter fun x => decide (0 < x.length)).length : Int)), .bool true], .blk b13 28 [.slice Au54 0 cu54, .int .i64 (20 - (((fewF l).filter fun x => decide (0 < x.length)).length : Int)), .bool true], .blk b11 28 [.slice Au48 0 cu48, .int .i64 20, .bool false]] w) (L := [(7, _), (8, _), (13, _), (14, _), (15, _), (16, _), (17, _), (18, _), (19, _), (20, _)]) ⟨rfl, rfl, rfl, rfl, rfl, rfl, rfl, rfl, rfl, rfl, trivial⟩ (⟨0, _, [], _, by omega, by simp, LB.nil _, hX, hu54, hm54, hu65, hm65, rfl, rfl, hs⟩) fun m E w hI => ?_)
    obtain ⟨k, v9, vs, G', hk, hvl, hvs, hX, hu54, hm54, hu65, hm65, rfl, rfl, hs⟩ := hI
    refine T_seq (T_seq (T_region rfl ?_))
    refine O_y hs (Y_move rfl ?_)
    refine O_y hs (Y_move rfl ?_)
    refine O_y hs (Y_len Try.underlying22 rfl ?_)
    refine O_y hs (Y_cmpS rfl rfl rfl (fun h73 => ?_) (fun h73 => ?_))
    · -- h73: True
      dsimp only [cmpP] at h73
      refine O_nil (T_sub [(7, _), (8, _), (13, _), (14, _), (15, _), (16, _), (17, _), (18, _), (19, _), (20, _), (73, _)] ⟨rfl, rfl, rfl, rfl, rfl, rfl, rfl, rfl, rfl, rfl, rfl, trivial⟩ ?_)
      refine T_condT rfl (T_skip ?_)
      refine T_seq (T_block (T_seq (T_region rfl ?_)))
      refine O_y hs (Y_move rfl ?_)
      refine O_y hs (Y_move rfl ?_)
      refine O_y hs (Y_idxL hX k Try.underlying22 Try.sizeOf23 rfl rfl rfl (by omega) fun p78 u78 hp78 hu78 => ?_)
      obtain ⟨A78, c78, rfl, _⟩ := id hu78
      refine O_y hs (Y_ldG Try.isAgg23 rfl hp78 ?_)
      refine O_y hs (Y_len Try.underlying23 rfl ?_)
      refine O_y hs (Y_cmpS rfl rfl rfl (fun h81 => ?_) (fun h81 => ?_))
      · -- h81: True
        dsimp only [cmpP] at h81
        refine O_nil (T_sub [(7, _), (8, _), (13, _), (14, _), (15, _), (16, _), (17, _), (18, _), (19, _), (20, _), (81, _)] ⟨rfl, rfl, rfl, rfl, rfl, rfl, rfl, rfl, rfl, rfl, rfl, trivial⟩ ?_)
        refine T_condT rfl (T_region rfl ?_)
        refine O_y hs (Y_move rfl ?_)
        refine O_y hs (Y_move rfl ?_)
        refine O_y hs (Y_move rfl ?_)
        refine O_y hs (Y_idxL hX k Try.underlying22 Try.sizeOf23 rfl rfl rfl (by omega) fun p85 u85 hp85 hu85 => ?_)
        obtain ⟨A85, c85, rfl, _⟩ := id hu85
        refine O_y hs (Y_ldG Try.isAgg23 rfl hp85 ?_)
        refine O_s (S_lit hs Try.underlying22 Try.sizeOf23 Try.zeroValue23 rfl rfl (by decide) (by decide) rfl (cs := [_]) rfl rfl fun v17 _ hs _ => ?_)
        obtain ⟨_, hG87, hl87, hs⟩ := hs.fixRow noM
        replace hX := hX.mono hG87
        replace hvs := hvs.mono hG87
        replace hu54 := hu54.mono hG87
        replace hm54 := hm54.mono hG87
        replace hu65 := hu65.mono hG87
        replace hm65 := hm65.mono hG87
        replace hu78 := hu78.mono hG87
        replace hu85 := hu85.mono hG87
        refine O_s (S_append hs Try.underlying22 TI23 rfl (by decide) rfl rfl (hl87) (one1 rfl) (by omega) (by omega) fun v18 _ hs => ?_)
        refine O_y hs (Y_assign rfl ?_)
        refine O_nil (T_sub [(7, _), (8, _), (13, _), (14, _), (15, _), (16, _), (17, _), (18, _), (19, _), (20, _)] ⟨rfl, rfl, rfl, rfl, rfl, rfl, rfl, rfl, rfl, rfl, trivial⟩ ?_)
        refine T_region rfl ?_
        refine O_y hs (Y_move rfl ?_)
        refine O_y hs (Y_add (c := ((k + 1 : Nat) : Int)) rfl rfl (by omega) (by omega) ?_)
        refine O_y hs (Y_assign rfl ?_)
        have hfs := filt_succ (fewF l) k (by omega)
        rw [if_pos (by omega)] at hfs
        refine O_nil ⟨_, ?_, [(7, _), (8, _), (13, _), (14, _), (15, _), (16, _), (17, _), (18, _), (19, _), (20, _)], ⟨rfl, rfl, rfl, rfl, rfl, rfl, rfl, rfl, rfl, rfl, trivial⟩, ⟨k + 1, _, vs ++ [_], _, by omega, by simp; omega, by rw [hfs]; exact hvs.snoc hu85, hX, hu54, hm54, hu65, hm65, rfl, rfl, by rw [List.length_append]; exact hs⟩⟩
        omega
      · -- h81: False
        dsimp only [cmpP] at h81
        refine O_nil (T_sub [(7, _), (8, _), (13, _), (14, _), (15, _), (16, _), (17, _), (18, _), (19, _), (20, _), (81, _)] ⟨rfl, rfl, rfl, rfl, rfl, rfl, rfl, rfl, rfl, rfl, rfl, trivial⟩ ?_)
        refine T_condF rfl (T_skip ?_)
        refine T_region rfl ?_
        refine O_y hs (Y_move rfl ?_)
        refine O_y hs (Y_add (c := ((k + 1 : Nat) : Int)) rfl rfl (by omega) (by omega) ?_)
        refine O_y hs (Y_assign rfl ?_)
        have hfs := filt_succ (fewF l) k (by omega)
        rw [if_neg (by omega), List.append_nil] at hfs
        refine O_nil ⟨_, ?_, [(7, _), (8, _), (13, _), (14, _), (15, _), (16, _), (17, _), (18, _), (19, _), (20, _)], ⟨rfl, rfl, rfl, rfl, rfl, rfl, rfl, rfl, rfl, rfl, trivial⟩, ⟨k + 1, _, vs, _, by omega, by omega, by rw [hfs]; exact hvs, hX, hu54, hm54, hu65, hm65, rfl, rfl, hs⟩⟩
        omega
    · -- h73: False
      dsimp only [cmpP] at h73
      refine O_nil (T_sub [(7, _), (8, _), (13, _), (14, _), (15, _), (16, _), (17, _), (18, _), (19, _), (20, _), (73, _)] ⟨rfl, rfl, rfl, rfl, rfl, rfl, rfl, rfl, rfl, rfl, rfl, trivial⟩ ?_)
      refine T_condF rfl (T_exit ?_)
      obtain ⟨_, hGf, hf, hs2⟩ := hs.fixRow noM
      have hs := hs2
      replace hX := hX.mono hGf
      replace hvs := hvs.mono hGf
      replace hu54 := hu54.mono hGf
      replace hm54 := hm54.mono hGf
      replace hu65 := hu65.mono hGf
      replace hm65 := hm65.mono hGf
      rw [List.take_of_length_le (by omega)] at hvs
      have hwant := LBytes.of hf hvs
      obtain ⟨vsw, hslw, hvsw⟩ := id hwant
      obtain ⟨Awa, cwa, rfl, _⟩ := id hslw
      have hs := hs2
      refine T_seq (T_region rfl ?_)
      refine O_y hs (Y_move rfl ?_)
      refine O_y hs (Y_cmpT rfl rfl rfl (rfl) ?_)
      refine O_y hs (Y_move rfl ?_)
      refine O_yy 91 hs rfl rfl (Y_fieldAddr FO28_2 rfl (m := 2) rfl ?_)
      refine O_yy 91 hs rfl rfl (Y_ld 1 Try.isAgg4 rfl rfl rfl ?_)
      refine O_y hs (Y_pickT rfl rfl ?_)
      refine O_y hs (Y_move rfl ?_)
      refine O_yy 95 hs rfl rfl (Y_move rfl ?_)
      refine O_yy 95 hs rfl rfl (Y_move rfl ?_)
      refine O_yes 95 rfl rfl (S_call (H1 := []) hs rfl Try.func22 rfl (by kernel_rfl) (sameBytes_eq hm54 hwant (by show (List.filter _ _).length ≤ _; omega) true (by simp)) fun v19 G' H' _ hR hG98 hs => ?_)
      obtain ⟨rfl, rfl⟩ := hR
      replace hs : St _ _ [_, _, _] _ := hs
      replace hX := hX.mono hG98
      replace hvs := hvs.mono hG98
      replace hu54 := hu54.mono hG98
      replace hm54 := hm54.mono hG98
      replace hu65 := hu65.mono hG98
      replace hm65 := hm65.mono hG98
      replace hwant := hwant.mono hG98
      refine O_y hs (Y_pickT rfl rfl ?_)
      refine O_y hs (Y_move rfl ?_)
      refine O_yy 100 hs rfl rfl (Y_move rfl ?_)
      refine O_yy 100 hs rfl rfl (Y_cmpT rfl rfl rfl (rfl) ?_)
      refine O_y hs (Y_pickT rfl rfl ?_)
      refine O_y hs (Y_move rfl ?_)
      refine O_yy 104 hs rfl rfl (Y_move rfl ?_)
      refine O_yy 104 hs rfl rfl (Y_len Try.underlying22 rfl ?_)
      refine O_yy 104 hs rfl rfl (Y_cmpT rfl rfl rfl (rfl) ?_)
      refine O_y hs (Y_pickT rfl rfl ?_)
      refine O_y hs (Y_move rfl ?_)
      refine O_yy 109 hs rfl rfl (Y_ldA 1 Try.isAgg28 Try.sizeOf28 rfl rfl (vs := [_, _, _]) rfl rfl ?_)
      refine O_yy 109 hs rfl rfl (Y_ldA 0 Try.isAgg28 Try.sizeOf28 rfl rfl (vs := [_, _, _]) rfl rfl ?_)
      refine O_yes 109 rfl rfl (S_call (H1 := []) hs rfl Try.func21 rfl (by kernel_rfl) (same_eq (d := ⟨[], (20 - (((fewF l).filter fun x => decide (0 < x.length)).length : Int)), true⟩) (e := ⟨[], (20 - (((fewF l).filter fun x => decide (0 < x.length)).length : Int)), true⟩) ⟨_, rfl, hu54⟩ ⟨_, rfl, hu65⟩ true (by simp)) fun v20 G' H' _ hR hG112 hs => ?_)
      obtain ⟨rfl, rfl⟩ := hR
      replace hs : St _ _ [_, _, _] _ := hs
      replace hX := hX.mono hG112
      replace hvs := hvs.mono hG112
      replace hu54 := hu54.mono hG112
      replace hm54 := hm54.mono hG112
      replace hu65 := hu65.mono hG112
      replace hm65 := hm65.mono hG112
      replace hwant := hwant.mono hG112
      refine O_y hs (Y_pickT rfl rfl ?_)
      refine O_y hs (Y_move rfl ?_)
      refine O_yy 114 hs rfl rfl (Y_move rfl ?_)
      refine O_y hs (Y_pickT rfl rfl ?_)
      refine O_y hs (Y_assign rfl ?_)
      refine O_nil (T_sub [(6, _)] ⟨rfl, trivial⟩ ?_)
      refine T_ret ?_
      refine Rt_fin (vs := [_]) Try.results9 rfl ⟨rfl, trivial⟩ ?_
      try dsimp only [tup]
      exact ⟨_, [], hs.done, rfl, rfl⟩

end Go.Proofs.Ytacchhkefnokdaa
