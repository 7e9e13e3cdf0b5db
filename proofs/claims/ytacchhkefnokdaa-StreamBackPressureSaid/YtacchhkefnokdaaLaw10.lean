import Derived.Test.YtacchhkefnokdaaExWalks
import Derived.Test.YtacchhkefnokdaaExMore
import Derived.Test.YtacchhkefnokdaaPlain
namespace Go.Proofs.Ytacchhkefnokdaa
open Go Go.Ex Go.RowKit


set_option maxHeartbeats 400000 in
set_option maxRecDepth 10000 in
theorem law10 {G : Ghost} {za zb : Nat} (_ha : za ≤ 65535) (_hb : zb ≤ 65535) :
    FnOk Try.prog 10 [.int .u16 (za : Int), .int .u16 (zb : Int)] G [] fun r _ H' => H' = [] ∧ r = .bool true := by
  have hz : (zerosL (1 + za % 4096)).length = (1 + za % 4096) := by simp [zerosL]
  have hfl := frameL_length (zerosL (1 + za % 4096))
  have hrl := restL_len (zb % 4098)
  refine FnOk.of_T [(0, _), (1, _)] Try.func10 rfl Try.ntmps10 (by simp) rfl fun w0 hs => ?_
  obtain ⟨q, hq⟩ : ∃ q, feedF ⟨(frameL (zerosL (1 + za % 4096))), 0, false⟩ (restL (zb % 4098)) = q := ⟨_, rfl⟩
  refine T_seq (T_region rfl ?_)
  refine O_y hs (Y_assign rfl ?_)
  refine O_nil (T_sub [(0, _), (1, _)] ⟨rfl, rfl, trivial⟩ ?_)
  refine T_seq (T_region rfl ?_)
  refine O_s (S_call (H1 := []) hs rfl Try.func11 rfl (by kernel_rfl) (sanity_ok) fun v1 G' H' _ hR hG26 hs => ?_)
  obtain ⟨rfl, rfl⟩ := hR
  replace hs : St _ _ [] _ := hs
  refine O_y hs (Y_assign rfl ?_)
  refine O_nil (T_sub [(0, _), (1, _), (5, _)] ⟨rfl, rfl, rfl, trivial⟩ ?_)
  refine T_seq (T_region rfl ?_)
  refine O_y hs (Y_move rfl ?_)
  refine O_y hs (Y_conv Try.underlying49 Try.underlying3 (c := (za : Int)) rfl (wrap64_eq (by omega)) ?_)
  refine O_y hs (Y_rem (c := ((za % 4096 : Nat) : Int)) rfl rfl (by omega) (by omega) (by omega) ?_)
  refine O_y hs (Y_add (c := (((1 + za % 4096) : Nat) : Int)) rfl rfl (by omega) (by omega) ?_)
  refine O_y hs (Y_assign rfl ?_)
  refine O_nil (T_sub [(1, _), (5, _), (6, _)] ⟨rfl, rfl, rfl, trivial⟩ ?_)
  refine T_seq (T_region rfl ?_)
  refine O_y hs (Y_move rfl ?_)
  refine O_s (S_make (n := (1 + za % 4096)) (m := (1 + za % 4096)) hs Try.underlying23 TI5 rfl rfl rfl (by omega) (by omega) (by omega) fun b32 _ hs => ?_)
  obtain ⟨_, hG32, hl32, hs⟩ := hs.fixRow noM
  replace hl32 := Bytes.ofSl (bs := zerosL (1 + za % 4096)) hl32 hz.symm (by unfold zerosL; rw [List.map_replicate]; rfl)
  refine O_y hs (Y_assign rfl ?_)
  refine O_nil (T_sub [(1, _), (5, _), (6, _), (7, _)] ⟨rfl, rfl, rfl, rfl, trivial⟩ ?_)
  refine T_seq (T_region rfl ?_)
  refine O_y hs (Y_move rfl ?_)
  refine O_s (S_call (H1 := []) hs rfl Try.func19 rfl (by kernel_rfl) (frame_ok hl32 (by omega)) fun v2 G' H' _ hR hG35 hs => ?_)
  obtain ⟨rfl, u35, rfl, hu35⟩ := hR
  replace hs : St _ _ [] _ := hs
  replace hl32 := hl32.mono hG35
  obtain ⟨Au35, cu35, rfl, _⟩ := id hu35
  refine O_y hs (Y_move rfl ?_)
  refine O_y hs (Y_extract rfl rfl ?_)
  refine O_y hs (Y_extract rfl rfl ?_)
  refine O_y hs (Y_assign rfl ?_)
  refine O_y hs (Y_assign rfl ?_)
  refine O_nil (T_sub [(1, _), (5, _), (6, _), (8, _), (9, _)] ⟨rfl, rfl, rfl, rfl, rfl, trivial⟩ ?_)
  refine T_seq (T_region rfl ?_)
  refine O_s (S_call (H1 := []) hs rfl Try.func15 rfl (by kernel_rfl) (new_eq (⟨[], 0, false⟩, 0) (by decide)) fun v3 G' H' _ hR hG39 hs => ?_)
  obtain ⟨rfl, dv39, rfl, u39, rfl, hu39⟩ := hR
  replace hs : St _ _ [] _ := hs
  replace hl32 := hl32.mono hG39
  replace hu35 := hu35.mono hG39
  obtain ⟨Au39, cu39, rfl, _⟩ := id hu39
  refine O_y hs (Y_move rfl ?_)
  refine O_y hs (Y_extract rfl rfl ?_)
  refine O_y hs (Y_extract rfl rfl ?_)
  refine O_s (S_alloc hs Try.zeroValue28 (cs := [_, _, _]) rfl fun b10 _ hs => ?_)
  refine O_n (S_stA hs Try.sizeOf28 rfl rfl (vs := [_, _, _]) rfl rfl (by simp) (cs' := [_, _, _]) rfl fun _ hs => ?_)
  refine O_y hs (Y_assign rfl ?_)
  refine O_nil (T_sub [(1, _), (5, _), (6, _), (8, _), (9, _), (10, _), (11, _)] ⟨rfl, rfl, rfl, rfl, rfl, rfl, rfl, trivial⟩ ?_)
  refine T_seq (T_region rfl ?_)
  refine O_y hs (Y_ldA 0 Try.isAgg28 Try.sizeOf28 rfl rfl (vs := [_, _, _]) rfl rfl ?_)
  refine O_y hs (Y_move rfl ?_)
  refine O_s (S_call (H1 := []) hs rfl Try.func13 rfl (by kernel_rfl) (feed_eq (d := ⟨[], 0, false⟩) _ ⟨_, rfl, hu39⟩ hu35 (by omega) (press_first (by omega) (by omega))) fun v4 G' H' _ hR hG45 hs => ?_)
  obtain ⟨rfl, dv45, mv45, rfl, ⟨u45, rfl, hu45⟩, hm45⟩ := hR
  replace hs : St _ _ [_] _ := hs
  replace hl32 := hl32.mono hG45
  replace hu35 := hu35.mono hG45
  replace hu39 := hu39.mono hG45
  obtain ⟨Au45, cu45, rfl, _⟩ := id hu45
  obtain ⟨vs45, hsl45, hvs45⟩ := id hm45
  obtain ⟨A45, c45, rfl, _⟩ := id hsl45
  refine O_y hs (Y_move rfl ?_)
  refine O_y hs (Y_extract rfl rfl ?_)
  refine O_y hs (Y_extract rfl rfl ?_)
  refine O_y hs (Y_extract rfl rfl ?_)
  refine O_s (S_alloc hs Try.zeroValue28 (cs := [_, _, _]) rfl fun b12 _ hs => ?_)
  refine O_n (S_stA hs Try.sizeOf28 rfl rfl (vs := [_, _, _]) rfl rfl (by simp) (cs' := [_, _, _]) rfl fun _ hs => ?_)
  refine O_y hs (Y_assign rfl ?_)
  refine O_y hs (Y_assign rfl ?_)
  refine O_nil (T_sub [(1, _), (5, _), (6, _), (9, _), (11, _), (12, _), (13, _), (14, _)] ⟨rfl, rfl, rfl, rfl, rfl, rfl, rfl, rfl, trivial⟩ ?_)
  refine T_seq (T_seq (T_region rfl ?_))
  refine O_y hs (Y_move rfl ?_)
  refine O_y hs (Y_cmpF rfl rfl rfl (by simp [cmpP]) ?_)
  refine O_y hs (Y_move rfl ?_)
  refine O_yy 51 hs rfl rfl (Y_move rfl ?_)
  refine O_yy 51 hs rfl rfl (Y_cmpF rfl rfl rfl (by simp [cmpP]) ?_)
  refine O_y hs (Y_pickF rfl rfl ?_)
  refine O_y hs (Y_move rfl ?_)
  refine O_yy 55 hs rfl rfl (Y_move rfl ?_)
  refine O_yy 55 hs rfl rfl (Y_cmpF rfl rfl rfl (by simp [cmpP]) ?_)
  refine O_y hs (Y_pickF rfl rfl ?_)
  refine O_y hs (Y_move rfl ?_)
  refine O_yy 59 hs rfl rfl (Y_move rfl ?_)
  refine O_yy 59 hs rfl rfl (Y_len Try.underlying22 rfl ?_)
  refine O_yy 59 hs rfl rfl (Y_cmpF rfl rfl rfl (by simp [cmpP]) ?_)
  refine O_y hs (Y_pickF rfl rfl ?_)
  refine O_y hs (Y_move rfl ?_)
  refine O_yy 64 hs rfl rfl (Y_fieldAddr FO28_0 rfl (m := 0) rfl ?_)
  refine O_yy 64 hs rfl rfl (Y_ld 0 Try.isAgg23 rfl rfl rfl ?_)
  refine O_yy 64 hs rfl rfl (Y_len Try.underlying23 rfl ?_)
  refine O_yy 64 hs rfl rfl (Y_move rfl ?_)
  refine O_yy 64 hs rfl rfl (Y_add (c := (((1 + za % 4096) + 2 : Nat) : Int)) rfl rfl (by omega) (by omega) ?_)
  refine O_yy 64 hs rfl rfl (Y_cmpF rfl rfl rfl (by dsimp only [cmpP]; omega) ?_)
  refine O_y hs (Y_pickF rfl rfl ?_)
  refine O_nil (T_sub [(1, _), (5, _), (6, _), (12, _), (71, _)] ⟨rfl, rfl, rfl, rfl, rfl, trivial⟩ ?_)
  refine T_condF rfl (T_skip ?_)
  refine T_seq (T_region rfl ?_)
  refine O_y hs (Y_move rfl ?_)
  refine O_y hs (Y_conv Try.underlying49 Try.underlying3 (c := (zb : Int)) rfl (wrap64_eq (by omega)) ?_)
  refine O_y hs (Y_rem (c := (((zb % 4098) : Nat) : Int)) rfl rfl (by omega) (by omega) (by omega) ?_)
  refine O_y hs (Y_assign rfl ?_)
  refine O_nil (T_sub [(5, _), (6, _), (12, _), (15, _)] ⟨rfl, rfl, rfl, rfl, trivial⟩ ?_)
  refine T_seq (T_region rfl ?_)
  refine O_y hs (Y_move rfl ?_)
  refine O_s (S_make (n := (zb % 4098)) (m := (zb % 4098)) hs Try.underlying23 TI5 rfl rfl rfl (by omega) (by omega) (by omega) fun b76 _ hs => ?_)
  refine O_y hs (Y_assign rfl ?_)
  refine O_nil (T_sub [(5, _), (6, _), (12, _), (15, _), (16, _)] ⟨rfl, rfl, rfl, rfl, rfl, trivial⟩ ?_)
  refine T_seq (T_seq (T_region rfl ?_))
  refine O_y hs (Y_assign rfl ?_)
  refine O_nil (T_sub [(5, _), (6, _), (12, _), (15, _), (16, _), (17, _)] ⟨rfl, rfl, rfl, rfl, rfl, rfl, trivial⟩ ?_)
  refine T_block (T_loop (fun m E w => ∃ (k : Nat) (G' : Ghost), k ≤ (zb % 4098) ∧ Bytes G' (.slice Au45 (frameL (zerosL (1 + za % 4096))).length cu45) (frameL (zerosL (1 + za % 4096))) ∧ m = (zb % 4098) - k ∧ E = ⟨[], [(5, .bool true), (6, .int .i64 ((((1 + za % 4096) : Nat) : Int))), (12, .pointer (some ⟨b12, 0, none⟩)), (15, .int .i64 (((zb % 4098) : Nat) : Int)), (16, .slice (some ⟨b76, 0, none⟩) (zb % 4098) (zb % 4098)), (17, .int .i64 (k : Int))]⟩ ∧ St ⟨w0, G, feet []⟩ G' [.row 5 1 (.slice (some ⟨b76, 0, none⟩) (zb % 4098) (zb % 4098)) (zb % 4098) (List.replicate k (Value.int .u8 255) ++ List.replicate ((zb % 4098) - k) (Value.int .u8 0)), .blk b12 28 [.slice Au45 (frameL (zerosL (1 + za % 4096))).length cu45, .int .i64 0, .bool false], .blk b10 28 [.slice Au39 0 cu39, .int .i64 0, .bool false]] w) (L := [(5, _), (6, _), (12, _), (15, _), (16, _), (17, _)]) ⟨rfl, rfl, rfl, rfl, rfl, rfl, trivial⟩ (⟨0, _, by omega, hu45, rfl, rfl, by simpa using hs⟩) fun m E w hI => ?_)
  obtain ⟨k, G', hk, hu45, rfl, rfl, hs⟩ := hI
  refine T_seq (T_seq (T_region rfl ?_))
  refine O_y hs (Y_move rfl ?_)
  refine O_y hs (Y_move rfl ?_)
  refine O_y hs (Y_cmpS rfl rfl rfl (fun h79 => ?_) (fun h79 => ?_))
  · -- h79: True
    dsimp only [cmpP] at h79
    refine O_nil (T_sub [(5, _), (6, _), (12, _), (15, _), (16, _), (17, _), (79, _)] ⟨rfl, rfl, rfl, rfl, rfl, rfl, rfl, trivial⟩ ?_)
    refine T_condT rfl (T_skip ?_)
    refine T_seq (T_block (T_region rfl ?_))
    refine O_y hs (Y_move rfl ?_)
    refine O_y hs (Y_move rfl ?_)
    refine O_y hs (Y_idxRow (k) Try.underlying23 Try.sizeOf5 rfl rfl rfl (by omega) ?_)
    refine O_n (S_stRow hs Try.sizeOf5 rfl rfl rfl (by omega) fun _ hs => ?_)
    refine O_nil (T_sub [(5, _), (6, _), (12, _), (15, _), (16, _), (17, _)] ⟨rfl, rfl, rfl, rfl, rfl, rfl, trivial⟩ ?_)
    refine T_region rfl ?_
    refine O_y hs (Y_move rfl ?_)
    refine O_y hs (Y_add (c := ((k + 1 : Nat) : Int)) rfl rfl (by omega) (by omega) ?_)
    refine O_y hs (Y_assign rfl ?_)
    refine O_nil ⟨_, ?_, [(5, _), (6, _), (12, _), (15, _), (16, _), (17, _)], ⟨rfl, rfl, rfl, rfl, rfl, rfl, trivial⟩, ⟨k + 1, _, by omega, hu45, rfl, rfl, by rw [← rest_step _ _ _ _ (by omega)]; exact hs⟩⟩
    omega
  · -- h79: False
    dsimp only [cmpP] at h79
    refine O_nil (T_sub [(5, _), (6, _), (12, _), (15, _), (16, _), (17, _), (79, _)] ⟨rfl, rfl, rfl, rfl, rfl, rfl, rfl, trivial⟩ ?_)
    refine T_condF rfl (T_exit ?_)
    refine T_seq (T_seq (T_region rfl ?_))
    refine O_y hs (Y_move rfl ?_)
    refine O_y hs (Y_cmpS rfl rfl rfl (fun h86 => ?_) (fun h86 => ?_))
    · -- h86: True
      dsimp only [cmpP] at h86
      refine O_nil (T_sub [(5, _), (6, _), (12, _), (15, _), (16, _), (86, _)] ⟨rfl, rfl, rfl, rfl, rfl, rfl, trivial⟩ ?_)
      refine T_condT rfl (T_seq (T_region rfl ?_))
      refine O_y hs (Y_move rfl ?_)
      refine O_y hs (Y_idxRow (0) Try.underlying23 Try.sizeOf5 rfl rfl rfl (by omega) ?_)
      refine O_n (S_stRow hs Try.sizeOf5 rfl rfl rfl (by omega) fun _ hs => ?_)
      refine O_nil (T_sub [(5, _), (6, _), (12, _), (15, _), (16, _)] ⟨rfl, rfl, rfl, rfl, rfl, trivial⟩ ?_)
      refine T_region rfl ?_
      refine O_y hs (Y_move rfl ?_)
      refine O_y hs (Y_idxRow (1) Try.underlying23 Try.sizeOf5 rfl rfl rfl (by omega) ?_)
      refine O_n (S_stRow hs Try.sizeOf5 rfl rfl rfl (by omega) fun _ hs => ?_)
      refine O_nil (T_sub [(5, _), (6, _), (12, _), (15, _), (16, _)] ⟨rfl, rfl, rfl, rfl, rfl, trivial⟩ ?_)
      obtain rfl : k = (zb % 4098) := by omega
      obtain ⟨_, hGf, hf, hs2⟩ := hs.fixRow noM
      have hs := hs2
      replace hu45 := hu45.mono hGf
      have hrest : Bytes _ (.slice (some ⟨b76, 0, none⟩) (zb % 4098) (zb % 4098)) (restL (zb % 4098)) := Bytes.ofSl hf (restL_len _).symm (rest_big (k := (zb % 4098)) (by omega))
      refine T_seq (T_region rfl ?_)
      refine O_y hs (Y_ldA 0 Try.isAgg28 Try.sizeOf28 rfl rfl (vs := [_, _, _]) rfl rfl ?_)
      refine O_y hs (Y_move rfl ?_)
      refine O_s (S_call (H1 := []) hs rfl Try.func13 rfl (by kernel_rfl) (feed_eq (d := ⟨(frameL (zerosL (1 + za % 4096))), 0, false⟩) q ⟨_, rfl, hu45⟩ hrest (by omega) hq) fun v5 G' H' _ hR hG94 hs => ?_)
      obtain ⟨rfl, dv94, mv94, rfl, ⟨u94, rfl, hu94⟩, hm94⟩ := hR
      replace hs : St _ _ [_, _] _ := hs
      replace hu45 := hu45.mono hG94
      replace hrest := hrest.mono hG94
      obtain ⟨Au94, cu94, rfl, _⟩ := id hu94
      obtain ⟨vs94, hsl94, hvs94⟩ := id hm94
      obtain ⟨A94, c94, rfl, _⟩ := id hsl94
      refine O_y hs (Y_move rfl ?_)
      refine O_y hs (Y_extract rfl rfl ?_)
      refine O_y hs (Y_extract rfl rfl ?_)
      refine O_y hs (Y_extract rfl rfl ?_)
      refine O_s (S_alloc hs Try.zeroValue28 (cs := [_, _, _]) rfl fun b18 _ hs => ?_)
      refine O_n (S_stA hs Try.sizeOf28 rfl rfl (vs := [_, _, _]) rfl rfl (by simp) (cs' := [_, _, _]) rfl fun _ hs => ?_)
      refine O_y hs (Y_assign rfl ?_)
      refine O_y hs (Y_assign rfl ?_)
      refine O_nil (T_sub [(5, _), (6, _), (12, _), (15, _), (16, _), (18, _), (19, _), (20, _)] ⟨rfl, rfl, rfl, rfl, rfl, rfl, rfl, rfl, trivial⟩ ?_)
      refine T_seq (T_seq (T_region rfl ?_))
      refine O_y hs (Y_move rfl ?_)
      refine O_y hs (Y_add (c := (((1 + za % 4096) + 2 : Nat) : Int)) rfl rfl (by omega) (by omega) ?_)
      refine O_y hs (Y_move rfl ?_)
      refine O_y hs (Y_add (c := (((1 + za % 4096) + 2 + (zb % 4098) : Nat) : Int)) rfl rfl (by omega) (by omega) ?_)
      refine O_y hs (Y_cmpS rfl rfl rfl (fun h102 => ?_) (fun h102 => ?_))
      · -- h102: True
        dsimp only [cmpP] at h102
        refine O_nil (T_sub [(5, _), (6, _), (12, _), (15, _), (16, _), (18, _), (19, _), (20, _), (102, _)] ⟨rfl, rfl, rfl, rfl, rfl, rfl, rfl, rfl, rfl, trivial⟩ ?_)
        obtain rfl : q = _ := hq.symm.trans (press_more (by omega) (by omega) (by omega))
        refine T_condT rfl (T_seq (T_region rfl ?_))
        refine O_y hs (Y_move rfl ?_)
        refine O_y hs (Y_cmpT rfl rfl rfl (rfl) ?_)
        refine O_y hs (Y_move rfl ?_)
        refine O_yy 105 hs rfl rfl (Y_move rfl ?_)
        refine O_yy 105 hs rfl rfl (Y_len Try.underlying22 rfl ?_)
        refine O_yy 105 hs rfl rfl (Y_cmpT rfl rfl rfl (rfl) ?_)
        refine O_y hs (Y_pickT rfl rfl ?_)
        refine O_y hs (Y_move rfl ?_)
        refine O_yy 110 hs rfl rfl (Y_fieldAddr FO28_0 rfl (m := 0) rfl ?_)
        refine O_yy 110 hs rfl rfl (Y_ld 0 Try.isAgg23 rfl rfl rfl ?_)
        refine O_yy 110 hs rfl rfl (Y_len Try.underlying23 rfl ?_)
        refine O_yy 110 hs rfl rfl (Y_move rfl ?_)
        refine O_yy 110 hs rfl rfl (Y_add (c := (((1 + za % 4096) + 2 : Nat) : Int)) rfl rfl (by omega) (by omega) ?_)
        refine O_yy 110 hs rfl rfl (Y_move rfl ?_)
        refine O_yy 110 hs rfl rfl (Y_add (c := (((1 + za % 4096) + 2 + (zb % 4098) : Nat) : Int)) rfl rfl (by omega) (by omega) ?_)
        refine O_yy 110 hs rfl rfl (Y_cmpT rfl rfl rfl (by dsimp only [cmpP]; rw [List.length_append]; omega) ?_)
        refine O_y hs (Y_pickT rfl rfl ?_)
        refine O_y hs (Y_move rfl ?_)
        refine O_yy 120 hs rfl rfl (Y_move rfl ?_)
        refine O_y hs (Y_pickT rfl rfl ?_)
        refine O_y hs (Y_assign rfl ?_)
        refine O_nil (T_sub [(4, _)] ⟨rfl, trivial⟩ ?_)
        refine T_ret ?_
        refine Rt_fin (vs := [_]) Try.results10 rfl ⟨rfl, trivial⟩ ?_
        try dsimp only [tup]
        exact ⟨_, [], hs.done, rfl, rfl⟩
      · -- h102: False
        dsimp only [cmpP] at h102
        refine O_nil (T_sub [(5, _), (6, _), (12, _), (15, _), (16, _), (18, _), (19, _), (20, _), (102, _)] ⟨rfl, rfl, rfl, rfl, rfl, rfl, rfl, rfl, rfl, trivial⟩ ?_)
        refine T_condF rfl (T_skip ?_)
        obtain rfl : q = _ := hq.symm.trans (press_full (by omega) (by omega) (by omega))
        refine T_seq (T_seq (T_region rfl ?_))
        refine O_y hs (Y_move rfl ?_)
        refine O_y hs (Y_cmpF rfl rfl rfl (by simp [cmpP]) ?_)
        refine O_y hs (Y_move rfl ?_)
        refine O_yy 125 hs rfl rfl (Y_move rfl ?_)
        refine O_yy 125 hs rfl rfl (Y_len Try.underlying22 rfl ?_)
        refine O_yy 125 hs rfl rfl (Y_cmpF rfl rfl rfl (by simp [cmpP]) ?_)
        refine O_y hs (Y_pickF rfl rfl ?_)
        refine O_y hs (Y_move rfl ?_)
        refine O_yy 130 hs rfl rfl (Y_ldA 1 Try.isAgg28 Try.sizeOf28 rfl rfl (vs := [_, _, _]) rfl rfl ?_)
        refine O_yy 130 hs rfl rfl (Y_ldA 0 Try.isAgg28 Try.sizeOf28 rfl rfl (vs := [_, _, _]) rfl rfl ?_)
        refine O_yes 130 rfl rfl (S_call (H1 := []) hs rfl Try.func21 rfl (by kernel_rfl) (same_eq (d := ⟨(frameL (zerosL (1 + za % 4096))), 0, false⟩) (e := ⟨(frameL (zerosL (1 + za % 4096))), 0, false⟩) ⟨_, rfl, hu45⟩ ⟨_, rfl, hu94⟩ true (by simp)) fun v6 G' H' _ hR hG133 hs => ?_)
        obtain ⟨rfl, rfl⟩ := hR
        replace hs : St _ _ [_, _, _] _ := hs
        replace hu45 := hu45.mono hG133
        replace hrest := hrest.mono hG133
        replace hu94 := hu94.mono hG133
        replace hm94 := hm94.mono hG133
        refine O_yy 130 hs rfl rfl (Y_not rfl ?_)
        refine O_y hs (Y_pickF rfl rfl ?_)
        refine O_nil (T_sub [(5, _), (6, _), (12, _), (15, _), (16, _), (135, _)] ⟨rfl, rfl, rfl, rfl, rfl, rfl, trivial⟩ ?_)
        refine T_condF rfl (T_skip ?_)
        refine T_seq (T_region rfl ?_)
        refine O_y hs (Y_ldA 1 Try.isAgg28 Try.sizeOf28 rfl rfl (vs := [_, _, _]) rfl rfl ?_)
        refine O_s (S_call (H1 := []) hs rfl Try.func17 rfl (by kernel_rfl) (grant_eq (d := ⟨(frameL (zerosL (1 + za % 4096))), 0, false⟩) (⟨(frameL (zerosL (1 + za % 4096))), 1, false⟩, 0) ⟨_, rfl, hu45⟩ (grantF_t ⟨validB_iff.2 ⟨by dsimp only; omega, by dsimp only; omega, by dsimp only; omega⟩, by omega, by dsimp only; omega⟩)) fun v7 G' H' _ hR hG138 hs => ?_)
        obtain ⟨rfl, dv138, rfl, u138, rfl, hu138⟩ := hR
        replace hs : St _ _ [_, _, _] _ := hs
        replace hu45 := hu45.mono hG138
        replace hrest := hrest.mono hG138
        replace hu94 := hu94.mono hG138
        replace hm94 := hm94.mono hG138
        obtain ⟨Au138, cu138, rfl, _⟩ := id hu138
        refine O_y hs (Y_move rfl ?_)
        refine O_y hs (Y_extract rfl rfl ?_)
        refine O_y hs (Y_extract rfl rfl ?_)
        refine O_s (S_alloc hs Try.zeroValue28 (cs := [_, _, _]) rfl fun b21 _ hs => ?_)
        refine O_n (S_stA hs Try.sizeOf28 rfl rfl (vs := [_, _, _]) rfl rfl (by simp) (cs' := [_, _, _]) rfl fun _ hs => ?_)
        refine O_y hs (Y_assign rfl ?_)
        refine O_nil (T_sub [(5, _), (6, _), (15, _), (16, _), (21, _), (22, _)] ⟨rfl, rfl, rfl, rfl, rfl, rfl, trivial⟩ ?_)
        refine T_seq (T_region rfl ?_)
        refine O_y hs (Y_ldA 0 Try.isAgg28 Try.sizeOf28 rfl rfl (vs := [_, _, _]) rfl rfl ?_)
        refine O_y hs (Y_move rfl ?_)
        refine O_s (S_call (H1 := []) hs rfl Try.func13 rfl (by kernel_rfl) (feed_eq (d := ⟨(frameL (zerosL (1 + za % 4096))), 1, false⟩) _ ⟨_, rfl, hu138⟩ hrest (by omega) (press_go (by omega) (by omega) (by omega))) fun v8 G' H' _ hR hG144 hs => ?_)
        obtain ⟨rfl, dv144, mv144, rfl, ⟨u144, rfl, hu144⟩, hm144⟩ := hR
        replace hs : St _ _ [_, _, _, _] _ := hs
        replace hu45 := hu45.mono hG144
        replace hrest := hrest.mono hG144
        replace hu94 := hu94.mono hG144
        replace hm94 := hm94.mono hG144
        replace hu138 := hu138.mono hG144
        obtain ⟨Au144, cu144, rfl, _⟩ := id hu144
        obtain ⟨vs144, hsl144, hvs144⟩ := id hm144
        obtain ⟨A144, c144, rfl, _⟩ := id hsl144
        refine O_y hs (Y_move rfl ?_)
        refine O_y hs (Y_extract rfl rfl ?_)
        refine O_y hs (Y_extract rfl rfl ?_)
        refine O_y hs (Y_extract rfl rfl ?_)
        refine O_s (S_alloc hs Try.zeroValue28 (cs := [_, _, _]) rfl fun b23 _ hs => ?_)
        refine O_n (S_stA hs Try.sizeOf28 rfl rfl (vs := [_, _, _]) rfl rfl (by simp) (cs' := [_, _, _]) rfl fun _ hs => ?_)
        refine O_y hs (Y_assign rfl ?_)
        refine O_y hs (Y_assign rfl ?_)
        refine O_nil (T_sub [(5, _), (6, _), (15, _), (22, _), (23, _), (24, _), (25, _)] ⟨rfl, rfl, rfl, rfl, rfl, rfl, rfl, trivial⟩ ?_)
        refine T_seq (T_region rfl ?_)
        refine O_y hs (Y_move rfl ?_)
        refine O_y hs (Y_cmpT rfl rfl rfl (rfl) ?_)
        refine O_y hs (Y_move rfl ?_)
        refine O_yy 150 hs rfl rfl (Y_move rfl ?_)
        refine O_yy 150 hs rfl rfl (Y_cmpT rfl rfl rfl (rfl) ?_)
        refine O_y hs (Y_pickT rfl rfl ?_)
        refine O_y hs (Y_move rfl ?_)
        refine O_yy 154 hs rfl rfl (Y_move rfl ?_)
        refine O_yy 154 hs rfl rfl (Y_len Try.underlying22 rfl ?_)
        refine O_yy 154 hs rfl rfl (Y_cmpT rfl rfl rfl (rfl) ?_)
        refine O_y hs (Y_pickT rfl rfl ?_)
        refine O_y hs (Y_move rfl ?_)
        refine O_yy 159 hs rfl rfl (Y_move rfl ?_)
        refine O_yy 159 hs rfl rfl (Y_idxL hm144 0 Try.underlying22 Try.sizeOf23 rfl rfl rfl Nat.zero_lt_one fun p161 u161 hp161 hu161 => ?_)
        obtain ⟨A161, c161, rfl, _⟩ := id hu161
        refine O_yy 159 hs rfl rfl (Y_ldG Try.isAgg23 rfl hp161 ?_)
        refine O_yy 159 hs rfl rfl (Y_len Try.underlying23 rfl ?_)
        refine O_yy 159 hs rfl rfl (Y_move rfl ?_)
        refine O_yy 159 hs rfl rfl (Y_cmpT rfl rfl rfl (by show ((zerosL _).length : Int) = _; rw [hz]) ?_)
        refine O_y hs (Y_pickT rfl rfl ?_)
        refine O_y hs (Y_move rfl ?_)
        refine O_yy 167 hs rfl rfl (Y_fieldAddr FO28_0 rfl (m := 0) rfl ?_)
        refine O_yy 167 hs rfl rfl (Y_ld 0 Try.isAgg23 rfl rfl rfl ?_)
        refine O_yy 167 hs rfl rfl (Y_len Try.underlying23 rfl ?_)
        refine O_yy 167 hs rfl rfl (Y_move rfl ?_)
        refine O_yy 167 hs rfl rfl (Y_cmpT rfl rfl rfl (by dsimp only [cmpP]; rw [hrl]) ?_)
        refine O_y hs (Y_pickT rfl rfl ?_)
        refine O_y hs (Y_move rfl ?_)
        refine O_yy 174 hs rfl rfl (Y_fieldAddr FO28_1 rfl (m := 1) rfl ?_)
        refine O_yy 174 hs rfl rfl (Y_ld 0 Try.isAgg3 rfl rfl rfl ?_)
        refine O_yy 174 hs rfl rfl (Y_cmpT rfl rfl rfl (rfl) ?_)
        refine O_y hs (Y_pickT rfl rfl ?_)
        refine O_y hs (Y_move rfl ?_)
        refine O_yy 179 hs rfl rfl (Y_move rfl ?_)
        refine O_y hs (Y_pickT rfl rfl ?_)
        refine O_y hs (Y_assign rfl ?_)
        refine O_nil (T_sub [(4, _)] ⟨rfl, trivial⟩ ?_)
        refine T_ret ?_
        refine Rt_fin (vs := [_]) Try.results10 rfl ⟨rfl, trivial⟩ ?_
        try dsimp only [tup]
        exact ⟨_, [], hs.done, rfl, rfl⟩
    · -- h86: False
      dsimp only [cmpP] at h86
      refine O_nil (T_sub [(5, _), (6, _), (12, _), (15, _), (16, _), (86, _)] ⟨rfl, rfl, rfl, rfl, rfl, rfl, trivial⟩ ?_)
      refine T_condF rfl (T_skip ?_)
      obtain rfl : k = (zb % 4098) := by omega
      obtain ⟨_, hGf, hf, hs2⟩ := hs.fixRow noM
      have hs := hs2
      replace hu45 := hu45.mono hGf
      have hrest : Bytes _ (.slice (some ⟨b76, 0, none⟩) (zb % 4098) (zb % 4098)) (restL (zb % 4098)) := Bytes.ofSl hf (restL_len _).symm (rest_small (k := (zb % 4098)) (by omega))
      refine T_seq (T_region rfl ?_)
      refine O_y hs (Y_ldA 0 Try.isAgg28 Try.sizeOf28 rfl rfl (vs := [_, _, _]) rfl rfl ?_)
      refine O_y hs (Y_move rfl ?_)
      refine O_s (S_call (H1 := []) hs rfl Try.func13 rfl (by kernel_rfl) (feed_eq (d := ⟨(frameL (zerosL (1 + za % 4096))), 0, false⟩) q ⟨_, rfl, hu45⟩ hrest (by omega) hq) fun v9 G' H' _ hR hG94 hs => ?_)
      obtain ⟨rfl, dv94, mv94, rfl, ⟨u94, rfl, hu94⟩, hm94⟩ := hR
      replace hs : St _ _ [_, _] _ := hs
      replace hu45 := hu45.mono hG94
      replace hrest := hrest.mono hG94
      obtain ⟨Au94, cu94, rfl, _⟩ := id hu94
      obtain ⟨vs94, hsl94, hvs94⟩ := id hm94
      obtain ⟨A94, c94, rfl, _⟩ := id hsl94
      refine O_y hs (Y_move rfl ?_)
      refine O_y hs (Y_extract rfl rfl ?_)
      refine O_y hs (Y_extract rfl rfl ?_)
      refine O_y hs (Y_extract rfl rfl ?_)
      refine O_s (S_alloc hs Try.zeroValue28 (cs := [_, _, _]) rfl fun b18 _ hs => ?_)
      refine O_n (S_stA hs Try.sizeOf28 rfl rfl (vs := [_, _, _]) rfl rfl (by simp) (cs' := [_, _, _]) rfl fun _ hs => ?_)
      refine O_y hs (Y_assign rfl ?_)
      refine O_y hs (Y_assign rfl ?_)
      refine O_nil (T_sub [(5, _), (6, _), (12, _), (15, _), (16, _), (18, _), (19, _), (20, _)] ⟨rfl, rfl, rfl, rfl, rfl, rfl, rfl, rfl, trivial⟩ ?_)
      refine T_seq (T_seq (T_region rfl ?_))
      refine O_y hs (Y_move rfl ?_)
      refine O_y hs (Y_add (c := (((1 + za % 4096) + 2 : Nat) : Int)) rfl rfl (by omega) (by omega) ?_)
      refine O_y hs (Y_move rfl ?_)
      refine O_y hs (Y_add (c := (((1 + za % 4096) + 2 + (zb % 4098) : Nat) : Int)) rfl rfl (by omega) (by omega) ?_)
      refine O_y hs (Y_cmpS rfl rfl rfl (fun h102 => ?_) (fun h102 => ?_))
      · -- h102: True
        dsimp only [cmpP] at h102
        refine O_nil (T_sub [(5, _), (6, _), (12, _), (15, _), (16, _), (18, _), (19, _), (20, _), (102, _)] ⟨rfl, rfl, rfl, rfl, rfl, rfl, rfl, rfl, rfl, trivial⟩ ?_)
        obtain rfl : q = _ := hq.symm.trans (press_more (by omega) (by omega) (by omega))
        refine T_condT rfl (T_seq (T_region rfl ?_))
        refine O_y hs (Y_move rfl ?_)
        refine O_y hs (Y_cmpT rfl rfl rfl (rfl) ?_)
        refine O_y hs (Y_move rfl ?_)
        refine O_yy 105 hs rfl rfl (Y_move rfl ?_)
        refine O_yy 105 hs rfl rfl (Y_len Try.underlying22 rfl ?_)
        refine O_yy 105 hs rfl rfl (Y_cmpT rfl rfl rfl (rfl) ?_)
        refine O_y hs (Y_pickT rfl rfl ?_)
        refine O_y hs (Y_move rfl ?_)
        refine O_yy 110 hs rfl rfl (Y_fieldAddr FO28_0 rfl (m := 0) rfl ?_)
        refine O_yy 110 hs rfl rfl (Y_ld 0 Try.isAgg23 rfl rfl rfl ?_)
        refine O_yy 110 hs rfl rfl (Y_len Try.underlying23 rfl ?_)
        refine O_yy 110 hs rfl rfl (Y_move rfl ?_)
        refine O_yy 110 hs rfl rfl (Y_add (c := (((1 + za % 4096) + 2 : Nat) : Int)) rfl rfl (by omega) (by omega) ?_)
        refine O_yy 110 hs rfl rfl (Y_move rfl ?_)
        refine O_yy 110 hs rfl rfl (Y_add (c := (((1 + za % 4096) + 2 + (zb % 4098) : Nat) : Int)) rfl rfl (by omega) (by omega) ?_)
        refine O_yy 110 hs rfl rfl (Y_cmpT rfl rfl rfl (by dsimp only [cmpP]; rw [List.length_append]; omega) ?_)
        refine O_y hs (Y_pickT rfl rfl ?_)
        refine O_y hs (Y_move rfl ?_)
        refine O_yy 120 hs rfl rfl (Y_move rfl ?_)
        refine O_y hs (Y_pickT rfl rfl ?_)
        refine O_y hs (Y_assign rfl ?_)
        refine O_nil (T_sub [(4, _)] ⟨rfl, trivial⟩ ?_)
        refine T_ret ?_
        refine Rt_fin (vs := [_]) Try.results10 rfl ⟨rfl, trivial⟩ ?_
        try dsimp only [tup]
        exact ⟨_, [], hs.done, rfl, rfl⟩
      · -- h102: False
        dsimp only [cmpP] at h102
        refine O_nil (T_sub [(5, _), (6, _), (12, _), (15, _), (16, _), (18, _), (19, _), (20, _), (102, _)] ⟨rfl, rfl, rfl, rfl, rfl, rfl, rfl, rfl, rfl, trivial⟩ ?_)
        refine T_condF rfl (T_skip ?_)
        obtain rfl : q = _ := hq.symm.trans (press_full (by omega) (by omega) (by omega))
        refine T_seq (T_seq (T_region rfl ?_))
        refine O_y hs (Y_move rfl ?_)
        refine O_y hs (Y_cmpF rfl rfl rfl (by simp [cmpP]) ?_)
        refine O_y hs (Y_move rfl ?_)
        refine O_yy 125 hs rfl rfl (Y_move rfl ?_)
        refine O_yy 125 hs rfl rfl (Y_len Try.underlying22 rfl ?_)
        refine O_yy 125 hs rfl rfl (Y_cmpF rfl rfl rfl (by simp [cmpP]) ?_)
        refine O_y hs (Y_pickF rfl rfl ?_)
        refine O_y hs (Y_move rfl ?_)
        refine O_yy 130 hs rfl rfl (Y_ldA 1 Try.isAgg28 Try.sizeOf28 rfl rfl (vs := [_, _, _]) rfl rfl ?_)
        refine O_yy 130 hs rfl rfl (Y_ldA 0 Try.isAgg28 Try.sizeOf28 rfl rfl (vs := [_, _, _]) rfl rfl ?_)
        refine O_yes 130 rfl rfl (S_call (H1 := []) hs rfl Try.func21 rfl (by kernel_rfl) (same_eq (d := ⟨(frameL (zerosL (1 + za % 4096))), 0, false⟩) (e := ⟨(frameL (zerosL (1 + za % 4096))), 0, false⟩) ⟨_, rfl, hu45⟩ ⟨_, rfl, hu94⟩ true (by simp)) fun v10 G' H' _ hR hG133 hs => ?_)
        obtain ⟨rfl, rfl⟩ := hR
        replace hs : St _ _ [_, _, _] _ := hs
        replace hu45 := hu45.mono hG133
        replace hrest := hrest.mono hG133
        replace hu94 := hu94.mono hG133
        replace hm94 := hm94.mono hG133
        refine O_yy 130 hs rfl rfl (Y_not rfl ?_)
        refine O_y hs (Y_pickF rfl rfl ?_)
        refine O_nil (T_sub [(5, _), (6, _), (12, _), (15, _), (16, _), (135, _)] ⟨rfl, rfl, rfl, rfl, rfl, rfl, trivial⟩ ?_)
        refine T_condF rfl (T_skip ?_)
        refine T_seq (T_region rfl ?_)
        refine O_y hs (Y_ldA 1 Try.isAgg28 Try.sizeOf28 rfl rfl (vs := [_, _, _]) rfl rfl ?_)
        refine O_s (S_call (H1 := []) hs rfl Try.func17 rfl (by kernel_rfl) (grant_eq (d := ⟨(frameL (zerosL (1 + za % 4096))), 0, false⟩) (⟨(frameL (zerosL (1 + za % 4096))), 1, false⟩, 0) ⟨_, rfl, hu45⟩ (grantF_t ⟨validB_iff.2 ⟨by dsimp only; omega, by dsimp only; omega, by dsimp only; omega⟩, by omega, by dsimp only; omega⟩)) fun v11 G' H' _ hR hG138 hs => ?_)
        obtain ⟨rfl, dv138, rfl, u138, rfl, hu138⟩ := hR
        replace hs : St _ _ [_, _, _] _ := hs
        replace hu45 := hu45.mono hG138
        replace hrest := hrest.mono hG138
        replace hu94 := hu94.mono hG138
        replace hm94 := hm94.mono hG138
        obtain ⟨Au138, cu138, rfl, _⟩ := id hu138
        refine O_y hs (Y_move rfl ?_)
        refine O_y hs (Y_extract rfl rfl ?_)
        refine O_y hs (Y_extract rfl rfl ?_)
        refine O_s (S_alloc hs Try.zeroValue28 (cs := [_, _, _]) rfl fun b21 _ hs => ?_)
        refine O_n (S_stA hs Try.sizeOf28 rfl rfl (vs := [_, _, _]) rfl rfl (by simp) (cs' := [_, _, _]) rfl fun _ hs => ?_)
        refine O_y hs (Y_assign rfl ?_)
        refine O_nil (T_sub [(5, _), (6, _), (15, _), (16, _), (21, _), (22, _)] ⟨rfl, rfl, rfl, rfl, rfl, rfl, trivial⟩ ?_)
        refine T_seq (T_region rfl ?_)
        refine O_y hs (Y_ldA 0 Try.isAgg28 Try.sizeOf28 rfl rfl (vs := [_, _, _]) rfl rfl ?_)
        refine O_y hs (Y_move rfl ?_)
        refine O_s (S_call (H1 := []) hs rfl Try.func13 rfl (by kernel_rfl) (feed_eq (d := ⟨(frameL (zerosL (1 + za % 4096))), 1, false⟩) _ ⟨_, rfl, hu138⟩ hrest (by omega) (press_go (by omega) (by omega) (by omega))) fun v12 G' H' _ hR hG144 hs => ?_)
        obtain ⟨rfl, dv144, mv144, rfl, ⟨u144, rfl, hu144⟩, hm144⟩ := hR
        replace hs : St _ _ [_, _, _, _] _ := hs
        replace hu45 := hu45.mono hG144
        replace hrest := hrest.mono hG144
        replace hu94 := hu94.mono hG144
        replace hm94 := hm94.mono hG144
        replace hu138 := hu138.mono hG144
        obtain ⟨Au144, cu144, rfl, _⟩ := id hu144
        obtain ⟨vs144, hsl144, hvs144⟩ := id hm144
        obtain ⟨A144, c144, rfl, _⟩ := id hsl144
        refine O_y hs (Y_move rfl ?_)
        refine O_y hs (Y_extract rfl rfl ?_)
        refine O_y hs (Y_extract rfl rfl ?_)
        refine O_y hs (Y_extract rfl rfl ?_)
        refine O_s (S_alloc hs Try.zeroValue28 (cs := [_, _, _]) rfl fun b23 _ hs => ?_)
        refine O_n (S_stA hs Try.sizeOf28 rfl rfl (vs := [_, _, _]) rfl rfl (by simp) (cs' := [_, _, _]) rfl fun _ hs => ?_)
        refine O_y hs (Y_assign rfl ?_)
        refine O_y hs (Y_assign rfl ?_)
        refine O_nil (T_sub [(5, _), (6, _), (15, _), (22, _), (23, _), (24, _), (25, _)] ⟨rfl, rfl, rfl, rfl, rfl, rfl, rfl, trivial⟩ ?_)
        refine T_seq (T_region rfl ?_)
        refine O_y hs (Y_move rfl ?_)
        refine O_y hs (Y_cmpT rfl rfl rfl (rfl) ?_)
        refine O_y hs (Y_move rfl ?_)
        refine O_yy 150 hs rfl rfl (Y_move rfl ?_)
        refine O_yy 150 hs rfl rfl (Y_cmpT rfl rfl rfl (rfl) ?_)
        refine O_y hs (Y_pickT rfl rfl ?_)
        refine O_y hs (Y_move rfl ?_)
        refine O_yy 154 hs rfl rfl (Y_move rfl ?_)
        refine O_yy 154 hs rfl rfl (Y_len Try.underlying22 rfl ?_)
        refine O_yy 154 hs rfl rfl (Y_cmpT rfl rfl rfl (rfl) ?_)
        refine O_y hs (Y_pickT rfl rfl ?_)
        refine O_y hs (Y_move rfl ?_)
        refine O_yy 159 hs rfl rfl (Y_move rfl ?_)
        refine O_yy 159 hs rfl rfl (Y_idxL hm144 0 Try.underlying22 Try.sizeOf23 rfl rfl rfl Nat.zero_lt_one fun p161 u161 hp161 hu161 => ?_)
        obtain ⟨A161, c161, rfl, _⟩ := id hu161
        refine O_yy 159 hs rfl rfl (Y_ldG Try.isAgg23 rfl hp161 ?_)
        refine O_yy 159 hs rfl rfl (Y_len Try.underlying23 rfl ?_)
        refine O_yy 159 hs rfl rfl (Y_move rfl ?_)
        refine O_yy 159 hs rfl rfl (Y_cmpT rfl rfl rfl (by show ((zerosL _).length : Int) = _; rw [hz]) ?_)
        refine O_y hs (Y_pickT rfl rfl ?_)
        refine O_y hs (Y_move rfl ?_)
        refine O_yy 167 hs rfl rfl (Y_fieldAddr FO28_0 rfl (m := 0) rfl ?_)
        refine O_yy 167 hs rfl rfl (Y_ld 0 Try.isAgg23 rfl rfl rfl ?_)
        refine O_yy 167 hs rfl rfl (Y_len Try.underlying23 rfl ?_)
        refine O_yy 167 hs rfl rfl (Y_move rfl ?_)
        refine O_yy 167 hs rfl rfl (Y_cmpT rfl rfl rfl (by dsimp only [cmpP]; rw [hrl]) ?_)
        refine O_y hs (Y_pickT rfl rfl ?_)
        refine O_y hs (Y_move rfl ?_)
        refine O_yy 174 hs rfl rfl (Y_fieldAddr FO28_1 rfl (m := 1) rfl ?_)
        refine O_yy 174 hs rfl rfl (Y_ld 0 Try.isAgg3 rfl rfl rfl ?_)
        refine O_yy 174 hs rfl rfl (Y_cmpT rfl rfl rfl (rfl) ?_)
        refine O_y hs (Y_pickT rfl rfl ?_)
        refine O_y hs (Y_move rfl ?_)
        refine O_yy 179 hs rfl rfl (Y_move rfl ?_)
        refine O_y hs (Y_pickT rfl rfl ?_)
        refine O_y hs (Y_assign rfl ?_)
        refine O_nil (T_sub [(4, _)] ⟨rfl, trivial⟩ ?_)
        refine T_ret ?_
        refine Rt_fin (vs := [_]) Try.results10 rfl ⟨rfl, trivial⟩ ?_
        try dsimp only [tup]
        exact ⟨_, [], hs.done, rfl, rfl⟩

end Go.Proofs.Ytacchhkefnokdaa
