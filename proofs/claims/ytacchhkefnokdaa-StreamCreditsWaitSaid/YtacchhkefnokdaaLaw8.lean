import Derived.Test.YtacchhkefnokdaaExWalks
import Derived.Test.YtacchhkefnokdaaExMore
import Derived.Test.YtacchhkefnokdaaPlain
namespace Go.Proofs.Ytacchhkefnokdaa
open Go Go.Ex Go.RowKit
theorem PL26 : places Try.prog 26 = some [(0, 1), (1, 1), (2, 1)] := by kernel_rfl

set_option maxHeartbeats 400000 in
set_option maxRecDepth 10000 in
theorem law8 {vl0 : Value} {G : Ghost} {l : List (List UInt8)} {za zb : Nat} (hl : LBytes G vl0 l) (ha : za ≤ 255) (hb : zb ≤ 255) :
    FnOk Try.prog 8 [vl0, .agg #[.int .u8 (za : Int), .int .u8 (zb : Int)]] G [] fun r _ H' => H' = [] ∧ r = .bool true := by
  obtain ⟨vl, hl1, hl2⟩ := id hl
  obtain ⟨AL, cL, rfl, hl3⟩ := id hl1
  have h40 := fewF_le l
  have h12 := fewF_len l
  have hF12 := want_le l
  have hF40 : ∀ x ∈ ((fewF l).filter fun x => decide (0 < x.length)), 0 < x.length ∧ x.length ≤ 40 := fun x hx => ⟨by simpa using (List.mem_filter.1 hx).2, fewF_le l x (List.mem_filter.1 hx).1⟩
  have hwF := wireF_all hF12 (fun x hx => (hF40 x hx).2)
  have hq1 := feed_all hF12 hF40 [] (wireF ((fewF l).filter fun x => decide (0 < x.length)) []) (by rw [hwF]; rfl) (za % 14) (by omega)
  have hwl := wireF_len ((fewF l).filter fun x => decide (0 < x.length)) []
  have hR := frames_le (((fewF l).filter fun x => decide (0 < x.length)).drop (za % 14)) (fun x hx => (hF40 x (List.mem_of_mem_drop hx)).2)
  have hD : (((fewF l).filter fun x => decide (0 < x.length)).drop (za % 14)).length ≤ 12 := by rw [List.length_drop]; omega
  have hg : grantF ⟨((((fewF l).filter fun x => decide (0 < x.length)).drop (za % 14)).map frameL).flatten, ((((za % 14) - min (za % 14) ((fewF l).filter fun x => decide (0 < x.length)).length) : Nat) : Int), false⟩ (((zb % 14) : Nat) : Int) = (⟨((((fewF l).filter fun x => decide (0 < x.length)).drop (za % 14)).map frameL).flatten, ((((za % 14) - min (za % 14) ((fewF l).filter fun x => decide (0 < x.length)).length) + (zb % 14) : Nat) : Int), false⟩, 0) := by rw [grantF_t ⟨validB_iff.2 ⟨by dsimp only; omega, by dsimp only; omega, by dsimp only; omega⟩, by omega, by dsimp only; omega⟩]; simp
  have hq2 := feed_all hD (fun x hx => hF40 x (List.mem_of_mem_drop hx)) (((((fewF l).filter fun x => decide (0 < x.length)).drop (za % 14)).map frameL).flatten) [] (by simp) (((za % 14) - min (za % 14) ((fewF l).filter fun x => decide (0 < x.length)).length) + (zb % 14)) (by omega)
  have hp := newF_t (n := (((za % 14) : Nat) : Int)) (by omega)
  refine FnOk.of_T [(0, _), (1, _)] Try.func8 rfl Try.ntmps8 (by simp) rfl fun w0 hs => ?_
  have hl0 := hl
  refine T_seq (T_region rfl ?_)
  refine O_s (S_box hs rfl (cs := [_, _]) rfl fun b3 _ hs => ?_)
  refine O_y hs (Y_assign rfl ?_)
  refine O_nil (T_sub [(0, _), (3, _)] ⟨rfl, rfl, trivial⟩ ?_)
  refine T_seq (T_region rfl ?_)
  refine O_s (S_call (H1 := []) hs rfl Try.func11 rfl (by kernel_rfl) (sanity_ok) fun v1 G' H' _ hR hG23 hs => ?_)
  obtain ⟨rfl, rfl⟩ := hR
  replace hs : St _ _ [_] _ := hs
  replace hl := hl.mono hG23
  refine O_y hs (Y_assign rfl ?_)
  refine O_nil (T_sub [(0, _), (3, _), (5, _)] ⟨rfl, rfl, rfl, trivial⟩ ?_)
  refine T_seq (T_region rfl ?_)
  refine O_s (S_lit hs Try.underlying22 Try.sizeOf23 Try.zeroValue23 rfl rfl (by decide) (by decide) rfl (cs := []) rfl rfl fun v2 _ hs _ => ?_)
  refine O_y hs (Y_assign rfl ?_)
  refine O_nil (T_sub [(0, _), (3, _), (5, _), (6, _)] ⟨rfl, rfl, rfl, rfl, trivial⟩ ?_)
  refine T_seq (T_region rfl ?_)
  refine O_y hs (Y_move rfl ?_)
  refine O_s (S_call (H1 := []) hs rfl Try.func28 rfl (by kernel_rfl) (few_ok hl) fun v3 G' H' _ hR hG26 hs => ?_)
  obtain ⟨rfl, hX⟩ := hR
  replace hs : St _ _ [_, _] _ := hs
  replace hl := hl.mono hG26
  obtain ⟨vf, hf1, hf2⟩ := id hX
  obtain ⟨A10, c10, rfl, _⟩ := id hf1
  refine O_y hs (Y_assign rfl ?_)
  refine O_nil (T_sub [(3, _), (5, _), (6, _), (7, _)] ⟨rfl, rfl, rfl, rfl, trivial⟩ ?_)
  refine T_seq (T_seq (T_region rfl ?_))
  refine O_y hs (Y_assign rfl ?_)
  refine O_nil (T_sub [(3, _), (5, _), (6, _), (7, _), (8, _)] ⟨rfl, rfl, rfl, rfl, rfl, trivial⟩ ?_)
  refine T_block (T_loop (fun m E w => ∃ (k : Nat) (v6 : Value) (vs : List Value) (G' : Ghost), k ≤ (fewF l).length ∧ vs.length ≤ k ∧ LB G' vs (((fewF l).take k).filter fun x => decide (0 < x.length)) ∧ LBytes G' (.slice A10 (fewF l).length c10) (fewF l) ∧ m = (fewF l).length - k ∧ E = ⟨[], [(3, .pointer (some ⟨b3, 0, none⟩)), (5, .bool true), (6, v6), (7, (.slice A10 (fewF l).length c10)), (8, .int .i64 (k : Int))]⟩ ∧ St ⟨w0, G, feet []⟩ G' [.row 23 1 v6 vs.length vs, .blk b3 52 [.int .u8 (za : Int), .int .u8 (zb : Int)]] w) (L := [(3, _), (5, _), (6, _), (7, _), (8, _)]) ⟨rfl, rfl, rfl, rfl, rfl, trivial⟩ (⟨0, _, [], _, by omega, by simp, LB.nil _, hX, rfl, rfl, hs⟩) fun m E w hI => ?_)
  obtain ⟨k, v6, vs, G', hk, hvl, hvs, hX, rfl, rfl, hs⟩ := hI
  refine T_seq (T_seq (T_region rfl ?_))
  refine O_y hs (Y_move rfl ?_)
  refine O_y hs (Y_move rfl ?_)
  refine O_y hs (Y_len Try.underlying22 rfl ?_)
  refine O_y hs (Y_cmpS rfl rfl rfl (fun h30 => ?_) (fun h30 => ?_))
  · -- h30: True
    dsimp only [cmpP] at h30
    refine O_nil (T_sub [(3, _), (5, _), (6, _), (7, _), (8, _), (30, _)] ⟨rfl, rfl, rfl, rfl, rfl, rfl, trivial⟩ ?_)
    refine T_condT rfl (T_skip ?_)
    refine T_seq (T_block (T_seq (T_region rfl ?_)))
    refine O_y hs (Y_move rfl ?_)
    refine O_y hs (Y_move rfl ?_)
    refine O_y hs (Y_idxL hX k Try.underlying22 Try.sizeOf23 rfl rfl rfl (by omega) fun p35 u35 hp35 hu35 => ?_)
    obtain ⟨A35, c35, rfl, _⟩ := id hu35
    refine O_y hs (Y_ldG Try.isAgg23 rfl hp35 ?_)
    refine O_y hs (Y_len Try.underlying23 rfl ?_)
    refine O_y hs (Y_cmpS rfl rfl rfl (fun h38 => ?_) (fun h38 => ?_))
    · -- h38: True
      dsimp only [cmpP] at h38
      refine O_nil (T_sub [(3, _), (5, _), (6, _), (7, _), (8, _), (38, _)] ⟨rfl, rfl, rfl, rfl, rfl, rfl, trivial⟩ ?_)
      refine T_condT rfl (T_region rfl ?_)
      refine O_y hs (Y_move rfl ?_)
      refine O_y hs (Y_move rfl ?_)
      refine O_y hs (Y_move rfl ?_)
      refine O_y hs (Y_idxL hX k Try.underlying22 Try.sizeOf23 rfl rfl rfl (by omega) fun p42 u42 hp42 hu42 => ?_)
      obtain ⟨A42, c42, rfl, _⟩ := id hu42
      refine O_y hs (Y_ldG Try.isAgg23 rfl hp42 ?_)
      refine O_s (S_lit hs Try.underlying22 Try.sizeOf23 Try.zeroValue23 rfl rfl (by decide) (by decide) rfl (cs := [_]) rfl rfl fun v4 _ hs _ => ?_)
      obtain ⟨_, hG44, hl44, hs⟩ := hs.fixRow noM
      replace hX := hX.mono hG44
      replace hvs := hvs.mono hG44
      replace hu35 := hu35.mono hG44
      replace hu42 := hu42.mono hG44
      refine O_s (S_append hs Try.underlying22 TI23 rfl (by decide) rfl rfl (hl44) (one1 rfl) (by omega) (by omega) fun v5 _ hs => ?_)
      refine O_y hs (Y_assign rfl ?_)
      refine O_nil (T_sub [(3, _), (5, _), (6, _), (7, _), (8, _)] ⟨rfl, rfl, rfl, rfl, rfl, trivial⟩ ?_)
      refine T_region rfl ?_
      refine O_y hs (Y_move rfl ?_)
      refine O_y hs (Y_add (c := ((k + 1 : Nat) : Int)) rfl rfl (by omega) (by omega) ?_)
      refine O_y hs (Y_assign rfl ?_)
      have hfs := filt_succ (fewF l) k (by omega)
      rw [if_pos (by omega)] at hfs
      refine O_nil ⟨_, ?_, [(3, _), (5, _), (6, _), (7, _), (8, _)], ⟨rfl, rfl, rfl, rfl, rfl, trivial⟩, ⟨k + 1, _, vs ++ [_], _, by omega, by simp; omega, by rw [hfs]; exact hvs.snoc hu42, hX, rfl, rfl, by rw [List.length_append]; exact hs⟩⟩
      omega
    · -- h38: False
      dsimp only [cmpP] at h38
      refine O_nil (T_sub [(3, _), (5, _), (6, _), (7, _), (8, _), (38, _)] ⟨rfl, rfl, rfl, rfl, rfl, rfl, trivial⟩ ?_)
      refine T_condF rfl (T_skip ?_)
      refine T_region rfl ?_
      refine O_y hs (Y_move rfl ?_)
      refine O_y hs (Y_add (c := ((k + 1 : Nat) : Int)) rfl rfl (by omega) (by omega) ?_)
      refine O_y hs (Y_assign rfl ?_)
      have hfs := filt_succ (fewF l) k (by omega)
      rw [if_neg (by omega), List.append_nil] at hfs
      refine O_nil ⟨_, ?_, [(3, _), (5, _), (6, _), (7, _), (8, _)], ⟨rfl, rfl, rfl, rfl, rfl, trivial⟩, ⟨k + 1, _, vs, _, by omega, by omega, by rw [hfs]; exact hvs, hX, rfl, rfl, hs⟩⟩
      omega
  · -- h30: False
    dsimp only [cmpP] at h30
    refine O_nil (T_sub [(3, _), (5, _), (6, _), (7, _), (8, _), (30, _)] ⟨rfl, rfl, rfl, rfl, rfl, rfl, trivial⟩ ?_)
    refine T_condF rfl (T_exit ?_)
    obtain ⟨_, hGf, hf, hs2⟩ := hs.fixRow noM
    have hs := hs2
    replace hX := hX.mono hGf
    replace hvs := hvs.mono hGf
    rw [List.take_of_length_le (by omega)] at hvs
    have hall := LBytes.of hf hvs
    obtain ⟨vsw, hslw, hvsw⟩ := id hall
    obtain ⟨Awa, cwa, rfl, _⟩ := id hslw
    have hs := hs2
    refine T_seq (T_drawS [0, 1, 2, 3, 4, 5, 6, 7, 8, 9] hs (by kernel_rfl) ?_)
    replace hs := hs.drew
    refine A_take 0 rfl (by kernel_rfl) rfl hs (Y_idxArr 0 Try.underlying52 Try.sizeOf5 rfl rfl rfl (by decide) (m := 0) rfl ?_)
    refine A_take 1 rfl (by kernel_rfl) rfl hs (Y_ld 0 Try.isAgg5 rfl rfl rfl ?_)
    refine A_take 2 rfl (by kernel_rfl) rfl hs (Y_conv Try.underlying5 Try.underlying3 (c := (za : Int)) rfl (wrap64_eq (by omega)) ?_)
    refine A_take 3 rfl (by kernel_rfl) rfl hs (Y_rem (c := (((za % 14) : Nat) : Int)) rfl rfl (by omega) (by omega) (by omega) ?_)
    refine A_take 4 rfl (by kernel_rfl) rfl hs (Y_idxArr 1 Try.underlying52 Try.sizeOf5 rfl rfl rfl (by decide) (m := 1) rfl ?_)
    refine A_take 5 rfl (by kernel_rfl) rfl hs (Y_ld 0 Try.isAgg5 rfl rfl rfl ?_)
    refine A_take 6 rfl (by kernel_rfl) rfl hs (Y_conv Try.underlying5 Try.underlying3 (c := (zb : Int)) rfl (wrap64_eq (by omega)) ?_)
    refine A_take 7 rfl (by kernel_rfl) rfl hs (Y_rem (c := (((zb % 14) : Nat) : Int)) rfl rfl (by omega) (by omega) (by omega) ?_)
    refine A_take 8 rfl (by kernel_rfl) rfl hs (Y_assign rfl ?_)
    refine A_take 9 rfl (by kernel_rfl) rfl hs (Y_assign rfl ?_)
    refine A_done (by kernel_rfl) (T_sub [(5, _), (6, _), (9, _), (10, _)] ⟨rfl, rfl, rfl, rfl, trivial⟩ ?_)
    refine T_seq (T_region rfl ?_)
    refine O_y hs (Y_move rfl ?_)
    refine O_s (S_call (H1 := []) hs rfl Try.func15 rfl (by kernel_rfl) (new_eq (⟨[], (((za % 14) : Nat) : Int), false⟩, 0) hp) fun v6 G' H' _ hR hG56 hs => ?_)
    obtain ⟨rfl, dv56, rfl, u56, rfl, hu56⟩ := hR
    replace hs : St _ _ [_] _ := hs
    replace hall := hall.mono hG56
    obtain ⟨Au56, cu56, rfl, _⟩ := id hu56
    refine O_y hs (Y_move rfl ?_)
    refine O_y hs (Y_extract rfl rfl ?_)
    refine O_y hs (Y_extract rfl rfl ?_)
    refine O_s (S_alloc hs Try.zeroValue28 (cs := [_, _, _]) rfl fun b11 _ hs => ?_)
    refine O_n (S_stA hs Try.sizeOf28 rfl rfl (vs := [_, _, _]) rfl rfl (by simp) (cs' := [_, _, _]) rfl fun _ hs => ?_)
    refine O_y hs (Y_assign rfl ?_)
    refine O_nil (T_sub [(5, _), (6, _), (9, _), (10, _), (11, _), (12, _)] ⟨rfl, rfl, rfl, rfl, rfl, rfl, trivial⟩ ?_)
    refine T_seq (T_drawS [0, 1, 2, 3, 4, 5, 6, 9] hs (by kernel_rfl) ?_)
    replace hs := hs.drew
    refine A_take 0 rfl (by kernel_rfl) rfl hs (Y_ldA 0 Try.isAgg28 Try.sizeOf28 rfl rfl (vs := [_, _, _]) rfl rfl ?_)
    refine A_take 1 rfl (by kernel_rfl) rfl hs (Y_move rfl ?_)
    refine A_take 2 rfl (by kernel_rfl) rfl hs (Y_build Try.zeroValue26 rfl PL26 rfl (cs := [_, _, _]) rfl ?_)
    refine A_two 3 9 rfl rfl (by kernel_rfl) rfl rfl ?_ ?_
    · -- operation 3 comes up
      have hle := hs.le
      refine S_call (H1 := []) hs rfl Try.func12 rfl (by kernel_rfl) (bytes_ok (L := ((fewF l).filter fun x => decide (0 < x.length))) (tail := []) hall (Sl.nil _ _) rfl) fun v7 G' H' _ hR hG63 hs => ?_
      obtain ⟨rfl, hw⟩ := hR
      obtain ⟨A63, c63, rfl, _⟩ := id hw
      replace hs : St _ _ [_, _] _ := hs
      replace hall := hall.mono hG63
      replace hu56 := hu56.mono hG63
      refine A_moreS hs hle hG63 (List.Sublist.refl _) ?_
      refine A_two 4 9 rfl rfl (by kernel_rfl) rfl rfl ?_ ?_
      · -- operation 4 comes up
        have hle := hs.le
        refine S_call (H1 := []) hs rfl Try.func13 rfl (by kernel_rfl) (feed_eq (d := ⟨[], (((za % 14) : Nat) : Int), false⟩) _ ⟨_, rfl, hu56⟩ hw (by omega) hq1) fun v8 G' H' _ hR hG64 hs => ?_
        obtain ⟨rfl, dv64, mv64, rfl, ⟨u64, rfl, hu64⟩, hm64⟩ := hR
        replace hs : St _ _ [_, _] _ := hs
        replace hall := hall.mono hG64
        replace hu56 := hu56.mono hG64
        replace hw := hw.mono hG64
        obtain ⟨Au64, cu64, rfl, _⟩ := id hu64
        obtain ⟨vs64, hsl64, hvs64⟩ := id hm64
        obtain ⟨A64, c64, rfl, _⟩ := id hsl64
        refine A_moreS hs hle hG64 (List.Sublist.refl _) ?_
        refine A_take 5 rfl (by kernel_rfl) rfl hs (Y_move rfl ?_)
        refine A_pure 7 rfl (by kernel_rfl) rfl (Y_extract rfl rfl ?_)
        refine A_pure 8 rfl (by kernel_rfl) rfl (Y_extract rfl rfl ?_)
        refine A_take 6 rfl (by kernel_rfl) rfl hs (Y_extract rfl rfl ?_)
        have hle := hs.le
        refine A_only 9 rfl (by kernel_rfl) rfl (S_alloc hs Try.zeroValue28 (cs := [_, _, _]) rfl fun b13 _ hs => ?_)
        refine A_moreS hs hle (Ghost.le.refl _) (List.sublist_cons_self _ _) ?_
        refine A_tailN 10 rfl (by kernel_rfl) (by kernel_rfl) rfl (S_stA hs Try.sizeOf28 rfl rfl (vs := [_, _, _]) rfl rfl (by simp) (cs' := [_, _, _]) rfl fun _ hs => ?_)
        refine A_tail 11 rfl (by kernel_rfl) (by kernel_rfl) rfl (S_y hs rfl (Y_assign rfl ?_))
        refine A_tail 12 rfl (by kernel_rfl) (by kernel_rfl) rfl (S_y hs rfl (Y_assign rfl ?_))
        refine A_done (by kernel_rfl) (T_sub [(5, _), (6, _), (9, _), (10, _), (12, _), (13, _), (14, _), (15, _)] ⟨rfl, rfl, rfl, rfl, rfl, rfl, rfl, rfl, trivial⟩ ?_)
        refine T_seq (T_region rfl ?_)
        refine O_y hs (Y_ldA 0 Try.isAgg28 Try.sizeOf28 rfl rfl (vs := [_, _, _]) rfl rfl ?_)
        refine O_y hs (Y_move rfl ?_)
        refine O_s (S_call (H1 := []) hs rfl Try.func17 rfl (by kernel_rfl) (grant_eq (d := ⟨((((fewF l).filter fun x => decide (0 < x.length)).drop (za % 14)).map frameL).flatten, ((((za % 14) - min (za % 14) ((fewF l).filter fun x => decide (0 < x.length)).length) : Nat) : Int), false⟩) _ ⟨_, rfl, hu64⟩ hg) fun v9 G' H' _ hR hG71 hs => ?_)
        obtain ⟨rfl, dv71, rfl, u71, rfl, hu71⟩ := hR
        replace hs : St _ _ [_, _, _] _ := hs
        replace hall := hall.mono hG71
        replace hu56 := hu56.mono hG71
        replace hw := hw.mono hG71
        replace hu64 := hu64.mono hG71
        replace hm64 := hm64.mono hG71
        obtain ⟨Au71, cu71, rfl, _⟩ := id hu71
        refine O_y hs (Y_move rfl ?_)
        refine O_y hs (Y_extract rfl rfl ?_)
        refine O_y hs (Y_extract rfl rfl ?_)
        refine O_s (S_alloc hs Try.zeroValue28 (cs := [_, _, _]) rfl fun b16 _ hs => ?_)
        refine O_n (S_stA hs Try.sizeOf28 rfl rfl (vs := [_, _, _]) rfl rfl (by simp) (cs' := [_, _, _]) rfl fun _ hs => ?_)
        refine O_y hs (Y_assign rfl ?_)
        refine O_nil (T_sub [(5, _), (6, _), (9, _), (10, _), (12, _), (14, _), (15, _), (16, _), (17, _)] ⟨rfl, rfl, rfl, rfl, rfl, rfl, rfl, rfl, rfl, trivial⟩ ?_)
        refine T_seq (T_region rfl ?_)
        refine O_y hs (Y_ldA 0 Try.isAgg28 Try.sizeOf28 rfl rfl (vs := [_, _, _]) rfl rfl ?_)
        refine O_s (S_call (H1 := []) hs rfl Try.func13 rfl (by kernel_rfl) (feed_eq (d := ⟨((((fewF l).filter fun x => decide (0 < x.length)).drop (za % 14)).map frameL).flatten, ((((za % 14) - min (za % 14) ((fewF l).filter fun x => decide (0 < x.length)).length) + (zb % 14) : Nat) : Int), false⟩) (b := []) _ ⟨_, rfl, hu71⟩ (Sl.nil _ _) (by simp) hq2) fun v10 G' H' _ hR hG76 hs => ?_)
        obtain ⟨rfl, dv76, mv76, rfl, ⟨u76, rfl, hu76⟩, hm76⟩ := hR
        replace hs : St _ _ [_, _, _, _] _ := hs
        replace hall := hall.mono hG76
        replace hu56 := hu56.mono hG76
        replace hw := hw.mono hG76
        replace hu64 := hu64.mono hG76
        replace hm64 := hm64.mono hG76
        replace hu71 := hu71.mono hG76
        obtain ⟨Au76, cu76, rfl, _⟩ := id hu76
        obtain ⟨vs76, hsl76, hvs76⟩ := id hm76
        obtain ⟨A76, c76, rfl, _⟩ := id hsl76
        refine O_y hs (Y_move rfl ?_)
        refine O_y hs (Y_extract rfl rfl ?_)
        refine O_y hs (Y_extract rfl rfl ?_)
        refine O_y hs (Y_extract rfl rfl ?_)
        refine O_s (S_alloc hs Try.zeroValue28 (cs := [_, _, _]) rfl fun b18 _ hs => ?_)
        refine O_n (S_stA hs Try.sizeOf28 rfl rfl (vs := [_, _, _]) rfl rfl (by simp) (cs' := [_, _, _]) rfl fun _ hs => ?_)
        refine O_y hs (Y_assign rfl ?_)
        refine O_y hs (Y_assign rfl ?_)
        refine O_nil (T_sub [(5, _), (6, _), (9, _), (10, _), (12, _), (14, _), (15, _), (17, _), (18, _), (19, _), (20, _)] ⟨rfl, rfl, rfl, rfl, rfl, rfl, rfl, rfl, rfl, rfl, rfl, trivial⟩ ?_)
        refine T_seq (T_region rfl ?_)
        refine O_y hs (Y_move rfl ?_)
        refine O_y hs (Y_move rfl ?_)
        refine O_y hs (Y_len Try.underlying22 rfl ?_)
        refine O_y hs (Y_min (c := ((min (za % 14) ((fewF l).filter fun x => decide (0 < x.length)).length : Nat) : Int)) rfl rfl (by omega) ?_)
        refine O_y hs (Y_assign rfl ?_)
        refine O_nil (T_sub [(5, _), (6, _), (9, _), (10, _), (12, _), (14, _), (15, _), (17, _), (18, _), (19, _), (20, _), (21, _)] ⟨rfl, rfl, rfl, rfl, rfl, rfl, rfl, rfl, rfl, rfl, rfl, rfl, trivial⟩ ?_)
        refine T_seq (T_region rfl ?_)
        refine O_y hs (Y_move rfl ?_)
        refine O_y hs (Y_move rfl ?_)
        refine O_y hs (Y_add (c := (((za % 14) + (zb % 14) : Nat) : Int)) rfl rfl (by omega) (by omega) ?_)
        refine O_y hs (Y_move rfl ?_)
        refine O_y hs (Y_len Try.underlying22 rfl ?_)
        refine O_y hs (Y_min (c := ((min ((za % 14) + (zb % 14)) ((fewF l).filter fun x => decide (0 < x.length)).length : Nat) : Int)) rfl rfl (by omega) ?_)
        refine O_y hs (Y_assign rfl ?_)
        refine O_nil (T_sub [(5, _), (6, _), (9, _), (10, _), (12, _), (14, _), (15, _), (17, _), (18, _), (19, _), (20, _), (21, _), (22, _)] ⟨rfl, rfl, rfl, rfl, rfl, rfl, rfl, rfl, rfl, rfl, rfl, rfl, rfl, trivial⟩ ?_)
        refine T_seq (T_region rfl ?_)
        refine O_y hs (Y_move rfl ?_)
        refine O_y hs (Y_cmpT rfl rfl rfl (rfl) ?_)
        refine O_y hs (Y_move rfl ?_)
        refine O_yy 92 hs rfl rfl (Y_move rfl ?_)
        refine O_yy 92 hs rfl rfl (Y_cmpT rfl rfl rfl (rfl) ?_)
        refine O_y hs (Y_pickT rfl rfl ?_)
        refine O_y hs (Y_move rfl ?_)
        refine O_yy 96 hs rfl rfl (Y_move rfl ?_)
        refine O_yy 96 hs rfl rfl (Y_cmpT rfl rfl rfl (rfl) ?_)
        refine O_y hs (Y_pickT rfl rfl ?_)
        refine O_y hs (Y_move rfl ?_)
        refine O_yy 100 hs rfl rfl (Y_move rfl ?_)
        refine O_yy 100 hs rfl rfl (Y_cmpT rfl rfl rfl (rfl) ?_)
        refine O_y hs (Y_pickT rfl rfl ?_)
        refine O_y hs (Y_move rfl ?_)
        refine O_yy 104 hs rfl rfl (Y_move rfl ?_)
        refine O_yy 104 hs rfl rfl (Y_move rfl ?_)
        refine O_yy 104 hs rfl rfl (Y_move rfl ?_)
        refine O_yy 104 hs rfl rfl (Y_sliceL hall 0 (min (za % 14) ((fewF l).filter fun x => decide (0 < x.length)).length) Try.underlying22 Try.sizeOf23 rfl rfl ⟨_, _, rfl, rfl⟩ (by omega) (by omega) fun s108 hs108 => ?_)
        obtain ⟨vs108, hsl108, _⟩ := id hs108
        obtain ⟨A108, c108, rfl, _⟩ := id hsl108
        refine O_yes 104 rfl rfl (S_call (H1 := []) hs rfl Try.func22 rfl (by kernel_rfl) (sameBytes_eq hm64 hs108 (by rw [List.length_take]; omega) true (decide_eq_true (by rw [List.drop_zero, Nat.sub_zero, Nat.min_comm]; exact (take_min _ _).symm))) fun v11 G' H' _ hR hG109 hs => ?_)
        obtain ⟨rfl, rfl⟩ := hR
        replace hs : St _ _ [_, _, _, _, _] _ := hs
        replace hall := hall.mono hG109
        replace hu56 := hu56.mono hG109
        replace hw := hw.mono hG109
        replace hu64 := hu64.mono hG109
        replace hm64 := hm64.mono hG109
        replace hu71 := hu71.mono hG109
        replace hu76 := hu76.mono hG109
        replace hm76 := hm76.mono hG109
        replace hs108 := hs108.mono hG109
        refine O_y hs (Y_pickT rfl rfl ?_)
        refine O_y hs (Y_move rfl ?_)
        refine O_yy 111 hs rfl rfl (Y_move rfl ?_)
        refine O_yy 111 hs rfl rfl (Y_move rfl ?_)
        refine O_yy 111 hs rfl rfl (Y_move rfl ?_)
        refine O_yy 111 hs rfl rfl (Y_move rfl ?_)
        refine O_yy 111 hs rfl rfl (Y_sliceL hall (min (za % 14) ((fewF l).filter fun x => decide (0 < x.length)).length) (min ((za % 14) + (zb % 14)) ((fewF l).filter fun x => decide (0 < x.length)).length) Try.underlying22 Try.sizeOf23 rfl ⟨_, _, rfl, rfl⟩ ⟨_, _, rfl, rfl⟩ (by omega) (by omega) fun s116 hs116 => ?_)
        obtain ⟨vs116, hsl116, _⟩ := id hs116
        obtain ⟨A116, c116, rfl, _⟩ := id hsl116
        refine O_yes 111 rfl rfl (S_call (H1 := []) hs rfl Try.func22 rfl (by kernel_rfl) (sameBytes_eq hm76 hs116 (by rw [List.length_take]; omega) true (decide_eq_true (credits_slice _ _ _))) fun v12 G' H' _ hR hG117 hs => ?_)
        obtain ⟨rfl, rfl⟩ := hR
        replace hs : St _ _ [_, _, _, _, _] _ := hs
        replace hall := hall.mono hG117
        replace hu56 := hu56.mono hG117
        replace hw := hw.mono hG117
        replace hu64 := hu64.mono hG117
        replace hm64 := hm64.mono hG117
        replace hu71 := hu71.mono hG117
        replace hu76 := hu76.mono hG117
        replace hm76 := hm76.mono hG117
        replace hs108 := hs108.mono hG117
        replace hs116 := hs116.mono hG117
        refine O_y hs (Y_pickT rfl rfl ?_)
        refine O_y hs (Y_move rfl ?_)
        refine O_yy 119 hs rfl rfl (Y_fieldAddr FO28_1 rfl (m := 1) rfl ?_)
        refine O_yy 119 hs rfl rfl (Y_ld 0 Try.isAgg3 rfl rfl rfl ?_)
        refine O_yy 119 hs rfl rfl (Y_move rfl ?_)
        refine O_yy 119 hs rfl rfl (Y_move rfl ?_)
        refine O_yy 119 hs rfl rfl (Y_add (c := (((za % 14) + (zb % 14) : Nat) : Int)) rfl rfl (by omega) (by omega) ?_)
        refine O_yy 119 hs rfl rfl (Y_move rfl ?_)
        refine O_yy 119 hs rfl rfl (Y_sub (c := (((za % 14) + (zb % 14) - min ((za % 14) + (zb % 14)) ((fewF l).filter fun x => decide (0 < x.length)).length : Nat) : Int)) rfl rfl (by omega) (by omega) ?_)
        refine O_yy 119 hs rfl rfl (Y_cmpT rfl rfl rfl (by dsimp only [cmpP]; rw [List.length_drop, credits_left]) ?_)
        refine O_y hs (Y_pickT rfl rfl ?_)
        refine O_y hs (Y_move rfl ?_)
        refine O_yy 129 hs rfl rfl (Y_move rfl ?_)
        refine O_y hs (Y_pickT rfl rfl ?_)
        refine O_y hs (Y_assign rfl ?_)
        refine O_nil (T_sub [(4, _)] ⟨rfl, trivial⟩ ?_)
        refine T_ret ?_
        refine Rt_fin (vs := [_]) Try.results8 rfl ⟨rfl, trivial⟩ ?_
        try dsimp only [tup]
        exact ⟨_, [], hs.done, rfl, rfl⟩
      · -- operation 9 comes up
        have hle := hs.le
        refine S_alloc hs Try.zeroValue28 (cs := [_, _, _]) rfl fun b13 _ hs => ?_
        refine A_moreS hs hle (Ghost.le.refl _) (List.sublist_cons_self _ _) ?_
        have hle := hs.le
        refine A_only 4 rfl (by kernel_rfl) rfl (S_call (H1 := []) hs rfl Try.func13 rfl (by kernel_rfl) (feed_eq (d := ⟨[], (((za % 14) : Nat) : Int), false⟩) _ ⟨_, rfl, hu56⟩ hw (by omega) hq1) fun v13 G' H' _ hR hG64 hs => ?_)
        obtain ⟨rfl, dv64, mv64, rfl, ⟨u64, rfl, hu64⟩, hm64⟩ := hR
        replace hs : St _ _ [_, _, _] _ := hs
        replace hall := hall.mono hG64
        replace hu56 := hu56.mono hG64
        replace hw := hw.mono hG64
        obtain ⟨Au64, cu64, rfl, _⟩ := id hu64
        obtain ⟨vs64, hsl64, hvs64⟩ := id hm64
        obtain ⟨A64, c64, rfl, _⟩ := id hsl64
        refine A_moreS hs hle hG64 (List.Sublist.refl _) ?_
        refine A_take 5 rfl (by kernel_rfl) rfl hs (Y_move rfl ?_)
        refine A_pure 7 rfl (by kernel_rfl) rfl (Y_extract rfl rfl ?_)
        refine A_pure 8 rfl (by kernel_rfl) rfl (Y_extract rfl rfl ?_)
        refine A_take 6 rfl (by kernel_rfl) rfl hs (Y_extract rfl rfl ?_)
        refine A_tailN 10 rfl (by kernel_rfl) (by kernel_rfl) rfl (S_stA hs Try.sizeOf28 rfl rfl (vs := [_, _, _]) rfl rfl (by simp) (cs' := [_, _, _]) rfl fun _ hs => ?_)
        refine A_tail 11 rfl (by kernel_rfl) (by kernel_rfl) rfl (S_y hs rfl (Y_assign rfl ?_))
        refine A_tail 12 rfl (by kernel_rfl) (by kernel_rfl) rfl (S_y hs rfl (Y_assign rfl ?_))
        refine A_done (by kernel_rfl) (T_sub [(5, _), (6, _), (9, _), (10, _), (12, _), (13, _), (14, _), (15, _)] ⟨rfl, rfl, rfl, rfl, rfl, rfl, rfl, rfl, trivial⟩ ?_)
        refine T_seq (T_region rfl ?_)
        refine O_y hs (Y_ldA 0 Try.isAgg28 Try.sizeOf28 rfl rfl (vs := [_, _, _]) rfl rfl ?_)
        refine O_y hs (Y_move rfl ?_)
        refine O_s (S_call (H1 := []) hs rfl Try.func17 rfl (by kernel_rfl) (grant_eq (d := ⟨((((fewF l).filter fun x => decide (0 < x.length)).drop (za % 14)).map frameL).flatten, ((((za % 14) - min (za % 14) ((fewF l).filter fun x => decide (0 < x.length)).length) : Nat) : Int), false⟩) _ ⟨_, rfl, hu64⟩ hg) fun v14 G' H' _ hR hG71 hs => ?_)
        obtain ⟨rfl, dv71, rfl, u71, rfl, hu71⟩ := hR
        replace hs : St _ _ [_, _, _] _ := hs
        replace hall := hall.mono hG71
        replace hu56 := hu56.mono hG71
        replace hw := hw.mono hG71
        replace hu64 := hu64.mono hG71
        replace hm64 := hm64.mono hG71
        obtain ⟨Au71, cu71, rfl, _⟩ := id hu71
        refine O_y hs (Y_move rfl ?_)
        refine O_y hs (Y_extract rfl rfl ?_)
        refine O_y hs (Y_extract rfl rfl ?_)
        refine O_s (S_alloc hs Try.zeroValue28 (cs := [_, _, _]) rfl fun b16 _ hs => ?_)
        refine O_n (S_stA hs Try.sizeOf28 rfl rfl (vs := [_, _, _]) rfl rfl (by simp) (cs' := [_, _, _]) rfl fun _ hs => ?_)
        refine O_y hs (Y_assign rfl ?_)
        refine O_nil (T_sub [(5, _), (6, _), (9, _), (10, _), (12, _), (14, _), (15, _), (16, _), (17, _)] ⟨rfl, rfl, rfl, rfl, rfl, rfl, rfl, rfl, rfl, trivial⟩ ?_)
        refine T_seq (T_region rfl ?_)
        refine O_y hs (Y_ldA 0 Try.isAgg28 Try.sizeOf28 rfl rfl (vs := [_, _, _]) rfl rfl ?_)
        refine O_s (S_call (H1 := []) hs rfl Try.func13 rfl (by kernel_rfl) (feed_eq (d := ⟨((((fewF l).filter fun x => decide (0 < x.length)).drop (za % 14)).map frameL).flatten, ((((za % 14) - min (za % 14) ((fewF l).filter fun x => decide (0 < x.length)).length) + (zb % 14) : Nat) : Int), false⟩) (b := []) _ ⟨_, rfl, hu71⟩ (Sl.nil _ _) (by simp) hq2) fun v15 G' H' _ hR hG76 hs => ?_)
        obtain ⟨rfl, dv76, mv76, rfl, ⟨u76, rfl, hu76⟩, hm76⟩ := hR
        replace hs : St _ _ [_, _, _, _] _ := hs
        replace hall := hall.mono hG76
        replace hu56 := hu56.mono hG76
        replace hw := hw.mono hG76
        replace hu64 := hu64.mono hG76
        replace hm64 := hm64.mono hG76
        replace hu71 := hu71.mono hG76
        obtain ⟨Au76, cu76, rfl, _⟩ := id hu76
        obtain ⟨vs76, hsl76, hvs76⟩ := id hm76
        obtain ⟨A76, c76, rfl, _⟩ := id hsl76
        refine O_y hs (Y_move rfl ?_)
        refine O_y hs (Y_extract rfl rfl ?_)
        refine O_y hs (Y_extract rfl rfl ?_)
        refine O_y hs (Y_extract rfl rfl ?_)
        refine O_s (S_alloc hs Try.zeroValue28 (cs := [_, _, _]) rfl fun b18 _ hs => ?_)
        refine O_n (S_stA hs Try.sizeOf28 rfl rfl (vs := [_, _, _]) rfl rfl (by simp) (cs' := [_, _, _]) rfl fun _ hs => ?_)
        refine O_y hs (Y_assign rfl ?_)
        refine O_y hs (Y_assign rfl ?_)
        refine O_nil (T_sub [(5, _), (6, _), (9, _), (10, _), (12, _), (14, _), (15, _), (17, _), (18, _), (19, _), (20, _)] ⟨rfl, rfl, rfl, rfl, rfl, rfl, rfl, rfl, rfl, rfl, rfl, trivial⟩ ?_)
        refine T_seq (T_region rfl ?_)
        refine O_y hs (Y_move rfl ?_)
        refine O_y hs (Y_move rfl ?_)
        refine O_y hs (Y_len Try.underlying22 rfl ?_)
        refine O_y hs (Y_min (c := ((min (za % 14) ((fewF l).filter fun x => decide (0 < x.length)).length : Nat) : Int)) rfl rfl (by omega) ?_)
        refine O_y hs (Y_assign rfl ?_)
        refine O_nil (T_sub [(5, _), (6, _), (9, _), (10, _), (12, _), (14, _), (15, _), (17, _), (18, _), (19, _), (20, _), (21, _)] ⟨rfl, rfl, rfl, rfl, rfl, rfl, rfl, rfl, rfl, rfl, rfl, rfl, trivial⟩ ?_)
        refine T_seq (T_region rfl ?_)
        refine O_y hs (Y_move rfl ?_)
        refine O_y hs (Y_move rfl ?_)
        refine O_y hs (Y_add (c := (((za % 14) + (zb % 14) : Nat) : Int)) rfl rfl (by omega) (by omega) ?_)
        refine O_y hs (Y_move rfl ?_)
        refine O_y hs (Y_len Try.underlying22 rfl ?_)
        refine O_y hs (Y_min (c := ((min ((za % 14) + (zb % 14)) ((fewF l).filter fun x => decide (0 < x.length)).length : Nat) : Int)) rfl rfl (by omega) ?_)
        refine O_y hs (Y_assign rfl ?_)
        refine O_nil (T_sub [(5, _), (6, _), (9, _), (10, _), (12, _), (14, _), (15, _), (17, _), (18, _), (19, _), (20, _), (21, _), (22, _)] ⟨rfl, rfl, rfl, rfl, rfl, rfl, rfl, rfl, rfl, rfl, rfl, rfl, rfl, trivial⟩ ?_)
        refine T_seq (T_region rfl ?_)
        refine O_y hs (Y_move rfl ?_)
        refine O_y hs (Y_cmpT rfl rfl rfl (rfl) ?_)
        refine O_y hs (Y_move rfl ?_)
        refine O_yy 92 hs rfl rfl (Y_move rfl ?_)
        refine O_yy 92 hs rfl rfl (Y_cmpT rfl rfl rfl (rfl) ?_)
        refine O_y hs (Y_pickT rfl rfl ?_)
        refine O_y hs (Y_move rfl ?_)
        refine O_yy 96 hs rfl rfl (Y_move rfl ?_)
        refine O_yy 96 hs rfl rfl (Y_cmpT rfl rfl rfl (rfl) ?_)
        refine O_y hs (Y_pickT rfl rfl ?_)
        refine O_y hs (Y_move rfl ?_)
        refine O_yy 100 hs rfl rfl (Y_move rfl ?_)
        refine O_yy 100 hs rfl rfl (Y_cmpT rfl rfl rfl (rfl) ?_)
        refine O_y hs (Y_pickT rfl rfl ?_)
        refine O_y hs (Y_move rfl ?_)
        refine O_yy 104 hs rfl rfl (Y_move rfl ?_)
        refine O_yy 104 hs rfl rfl (Y_move rfl ?_)
        refine O_yy 104 hs rfl rfl (Y_move rfl ?_)
        refine O_yy 104 hs rfl rfl (Y_sliceL hall 0 (min (za % 14) ((fewF l).filter fun x => decide (0 < x.length)).length) Try.underlying22 Try.sizeOf23 rfl rfl ⟨_, _, rfl, rfl⟩ (by omega) (by omega) fun s108 hs108 => ?_)
        obtain ⟨vs108, hsl108, _⟩ := id hs108
        obtain ⟨A108, c108, rfl, _⟩ := id hsl108
        refine O_yes 104 rfl rfl (S_call (H1 := []) hs rfl Try.func22 rfl (by kernel_rfl) (sameBytes_eq hm64 hs108 (by rw [List.length_take]; omega) true (decide_eq_true (by rw [List.drop_zero, Nat.sub_zero, Nat.min_comm]; exact (take_min _ _).symm))) fun v16 G' H' _ hR hG109 hs => ?_)
        obtain ⟨rfl, rfl⟩ := hR
        replace hs : St _ _ [_, _, _, _, _] _ := hs
        replace hall := hall.mono hG109
        replace hu56 := hu56.mono hG109
        replace hw := hw.mono hG109
        replace hu64 := hu64.mono hG109
        replace hm64 := hm64.mono hG109
        replace hu71 := hu71.mono hG109
        replace hu76 := hu76.mono hG109
        replace hm76 := hm76.mono hG109
        replace hs108 := hs108.mono hG109
        refine O_y hs (Y_pickT rfl rfl ?_)
        refine O_y hs (Y_move rfl ?_)
        refine O_yy 111 hs rfl rfl (Y_move rfl ?_)
        refine O_yy 111 hs rfl rfl (Y_move rfl ?_)
        refine O_yy 111 hs rfl rfl (Y_move rfl ?_)
        refine O_yy 111 hs rfl rfl (Y_move rfl ?_)
        refine O_yy 111 hs rfl rfl (Y_sliceL hall (min (za % 14) ((fewF l).filter fun x => decide (0 < x.length)).length) (min ((za % 14) + (zb % 14)) ((fewF l).filter fun x => decide (0 < x.length)).length) Try.underlying22 Try.sizeOf23 rfl ⟨_, _, rfl, rfl⟩ ⟨_, _, rfl, rfl⟩ (by omega) (by omega) fun s116 hs116 => ?_)
        obtain ⟨vs116, hsl116, _⟩ := id hs116
        obtain ⟨A116, c116, rfl, _⟩ := id hsl116
        refine O_yes 111 rfl rfl (S_call (H1 := []) hs rfl Try.func22 rfl (by kernel_rfl) (sameBytes_eq hm76 hs116 (by rw [List.length_take]; omega) true (decide_eq_true (credits_slice _ _ _))) fun v17 G' H' _ hR hG117 hs => ?_)
        obtain ⟨rfl, rfl⟩ := hR
        replace hs : St _ _ [_, _, _, _, _] _ := hs
        replace hall := hall.mono hG117
        replace hu56 := hu56.mono hG117
        replace hw := hw.mono hG117
        replace hu64 := hu64.mono hG117
        replace hm64 := hm64.mono hG117
        replace hu71 := hu71.mono hG117
        replace hu76 := hu76.mono hG117
        replace hm76 := hm76.mono hG117
        replace hs108 := hs108.mono hG117
        replace hs116 := hs116.mono hG117
        refine O_y hs (Y_pickT rfl rfl ?_)
        refine O_y hs (Y_move rfl ?_)
        refine O_yy 119 hs rfl rfl (Y_fieldAddr FO28_1 rfl (m := 1) rfl ?_)
        refine O_yy 119 hs rfl rfl (Y_ld 0 Try.isAgg3 rfl rfl rfl ?_)
        refine O_yy 119 hs rfl rfl (Y_move rfl ?_)
        refine O_yy 119 hs rfl rfl (Y_move rfl ?_)
        refine O_yy 119 hs rfl rfl (Y_add (c := (((za % 14) + (zb % 14) : Nat) : Int)) rfl rfl (by omega) (by omega) ?_)
        refine O_yy 119 hs rfl rfl (Y_move rfl ?_)
        refine O_yy 119 hs rfl rfl (Y_sub (c := (((za % 14) + (zb % 14) - min ((za % 14) + (zb % 14)) ((fewF l).filter fun x => decide (0 < x.length)).length : Nat) : Int)) rfl rfl (by omega) (by omega) ?_)
        refine O_yy 119 hs rfl rfl (Y_cmpT rfl rfl rfl (by dsimp only [cmpP]; rw [List.length_drop, credits_left]) ?_)
        refine O_y hs (Y_pickT rfl rfl ?_)
        refine O_y hs (Y_move rfl ?_)
        refine O_yy 129 hs rfl rfl (Y_move rfl ?_)
        refine O_y hs (Y_pickT rfl rfl ?_)
        refine O_y hs (Y_assign rfl ?_)
        refine O_nil (T_sub [(4, _)] ⟨rfl, trivial⟩ ?_)
        refine T_ret ?_
        refine Rt_fin (vs := [_]) Try.results8 rfl ⟨rfl, trivial⟩ ?_
        try dsimp only [tup]
        exact ⟨_, [], hs.done, rfl, rfl⟩
    · -- operation 9 comes up
      have hle := hs.le
      refine S_alloc hs Try.zeroValue28 (cs := [_, _, _]) rfl fun b13 _ hs => ?_
      refine A_moreS hs hle (Ghost.le.refl _) (List.sublist_cons_self _ _) ?_
      have hle := hs.le
      refine A_only 3 rfl (by kernel_rfl) rfl (S_call (H1 := []) hs rfl Try.func12 rfl (by kernel_rfl) (bytes_ok (L := ((fewF l).filter fun x => decide (0 < x.length))) (tail := []) hall (Sl.nil _ _) rfl) fun v18 G' H' _ hR hG63 hs => ?_)
      obtain ⟨rfl, hw⟩ := hR
      obtain ⟨A63, c63, rfl, _⟩ := id hw
      replace hs : St _ _ [_, _, _] _ := hs
      replace hall := hall.mono hG63
      replace hu56 := hu56.mono hG63
      refine A_moreS hs hle hG63 (List.Sublist.refl _) ?_
      have hle := hs.le
      refine A_only 4 rfl (by kernel_rfl) rfl (S_call (H1 := []) hs rfl Try.func13 rfl (by kernel_rfl) (feed_eq (d := ⟨[], (((za % 14) : Nat) : Int), false⟩) _ ⟨_, rfl, hu56⟩ hw (by omega) hq1) fun v19 G' H' _ hR hG64 hs => ?_)
      obtain ⟨rfl, dv64, mv64, rfl, ⟨u64, rfl, hu64⟩, hm64⟩ := hR
      replace hs : St _ _ [_, _, _] _ := hs
      replace hall := hall.mono hG64
      replace hu56 := hu56.mono hG64
      replace hw := hw.mono hG64
      obtain ⟨Au64, cu64, rfl, _⟩ := id hu64
      obtain ⟨vs64, hsl64, hvs64⟩ := id hm64
      obtain ⟨A64, c64, rfl, _⟩ := id hsl64
      refine A_moreS hs hle hG64 (List.Sublist.refl _) ?_
      refine A_take 5 rfl (by kernel_rfl) rfl hs (Y_move rfl ?_)
      refine A_pure 7 rfl (by kernel_rfl) rfl (Y_extract rfl rfl ?_)
      refine A_pure 8 rfl (by kernel_rfl) rfl (Y_extract rfl rfl ?_)
      refine A_take 6 rfl (by kernel_rfl) rfl hs (Y_extract rfl rfl ?_)
      refine A_tailN 10 rfl (by kernel_rfl) (by kernel_rfl) rfl (S_stA hs Try.sizeOf28 rfl rfl (vs := [_, _, _]) rfl rfl (by simp) (cs' := [_, _, _]) rfl fun _ hs => ?_)
      refine A_tail 11 rfl (by kernel_rfl) (by kernel_rfl) rfl (S_y hs rfl (Y_assign rfl ?_))
      refine A_tail 12 rfl (by kernel_rfl) (by kernel_rfl) rfl (S_y hs rfl (Y_assign rfl ?_))
      refine A_done (by kernel_rfl) (T_sub [(5, _), (6, _), (9, _), (10, _), (12, _), (13, _), (14, _), (15, _)] ⟨rfl, rfl, rfl, rfl, rfl, rfl, rfl, rfl, trivial⟩ ?_)
      refine T_seq (T_region rfl ?_)
      refine O_y hs (Y_ldA 0 Try.isAgg28 Try.sizeOf28 rfl rfl (vs := [_, _, _]) rfl rfl ?_)
      refine O_y hs (Y_move rfl ?_)
      refine O_s (S_call (H1 := []) hs rfl Try.func17 rfl (by kernel_rfl) (grant_eq (d := ⟨((((fewF l).filter fun x => decide (0 < x.length)).drop (za % 14)).map frameL).flatten, ((((za % 14) - min (za % 14) ((fewF l).filter fun x => decide (0 < x.length)).length) : Nat) : Int), false⟩) _ ⟨_, rfl, hu64⟩ hg) fun v20 G' H' _ hR hG71 hs => ?_)
      obtain ⟨rfl, dv71, rfl, u71, rfl, hu71⟩ := hR
      replace hs : St _ _ [_, _, _] _ := hs
      replace hall := hall.mono hG71
      replace hu56 := hu56.mono hG71
      replace hw := hw.mono hG71
      replace hu64 := hu64.mono hG71
      replace hm64 := hm64.mono hG71
      obtain ⟨Au71, cu71, rfl, _⟩ := id hu71
      refine O_y hs (Y_move rfl ?_)
      refine O_y hs (Y_extract rfl rfl ?_)
      refine O_y hs (Y_extract rfl rfl ?_)
      refine O_s (S_alloc hs Try.zeroValue28 (cs := [_, _, _]) rfl fun b16 _ hs => ?_)
      refine O_n (S_stA hs Try.sizeOf28 rfl rfl (vs := [_, _, _]) rfl rfl (by simp) (cs' := [_, _, _]) rfl fun _ hs => ?_)
      refine O_y hs (Y_assign rfl ?_)
      refine O_nil (T_sub [(5, _), (6, _), (9, _), (10, _), (12, _), (14, _), (15, _), (16, _), (17, _)] ⟨rfl, rfl, rfl, rfl, rfl, rfl, rfl, rfl, rfl, trivial⟩ ?_)
      refine T_seq (T_region rfl ?_)
      refine O_y hs (Y_ldA 0 Try.isAgg28 Try.sizeOf28 rfl rfl (vs := [_, _, _]) rfl rfl ?_)
      refine O_s (S_call (H1 := []) hs rfl Try.func13 rfl (by kernel_rfl) (feed_eq (d := ⟨((((fewF l).filter fun x => decide (0 < x.length)).drop (za % 14)).map frameL).flatten, ((((za % 14) - min (za % 14) ((fewF l).filter fun x => decide (0 < x.length)).length) + (zb % 14) : Nat) : Int), false⟩) (b := []) _ ⟨_, rfl, hu71⟩ (Sl.nil _ _) (by simp) hq2) fun v21 G' H' _ hR hG76 hs => ?_)
      obtain ⟨rfl, dv76, mv76, rfl, ⟨u76, rfl, hu76⟩, hm76⟩ := hR
      replace hs : St _ _ [_, _, _, _] _ := hs
      replace hall := hall.mono hG76
      replace hu56 := hu56.mono hG76
      replace hw := hw.mono hG76
      replace hu64 := hu64.mono hG76
      replace hm64 := hm64.mono hG76
      replace hu71 := hu71.mono hG76
      obtain ⟨Au76, cu76, rfl, _⟩ := id hu76
      obtain ⟨vs76, hsl76, hvs76⟩ := id hm76
      obtain ⟨A76, c76, rfl, _⟩ := id hsl76
      refine O_y hs (Y_move rfl ?_)
      refine O_y hs (Y_extract rfl rfl ?_)
      refine O_y hs (Y_extract rfl rfl ?_)
      refine O_y hs (Y_extract rfl rfl ?_)
      refine O_s (S_alloc hs Try.zeroValue28 (cs := [_, _, _]) rfl fun b18 _ hs => ?_)
      refine O_n (S_stA hs Try.sizeOf28 rfl rfl (vs := [_, _, _]) rfl rfl (by simp) (cs' := [_, _, _]) rfl fun _ hs => ?_)
      refine O_y hs (Y_assign rfl ?_)
      refine O_y hs (Y_assign rfl ?_)
      refine O_nil (T_sub [(5, _), (6, _), (9, _), (10, _), (12, _), (14, _), (15, _), (17, _), (18, _), (19, _), (20, _)] ⟨rfl, rfl, rfl, rfl, rfl, rfl, rfl, rfl, rfl, rfl, rfl, trivial⟩ ?_)
      refine T_seq (T_region rfl ?_)
      refine O_y hs (Y_move rfl ?_)
      refine O_y hs (Y_move rfl ?_)
      refine O_y hs (Y_len Try.underlying22 rfl ?_)
      refine O_y hs (Y_min (c := ((min (za % 14) ((fewF l).filter fun x => decide (0 < x.length)).length : Nat) : Int)) rfl rfl (by omega) ?_)
      refine O_y hs (Y_assign rfl ?_)
      refine O_nil (T_sub [(5, _), (6, _), (9, _), (10, _), (12, _), (14, _), (15, _), (17, _), (18, _), (19, _), (20, _), (21, _)] ⟨rfl, rfl, rfl, rfl, rfl, rfl, rfl, rfl, rfl, rfl, rfl, rfl, trivial⟩ ?_)
      refine T_seq (T_region rfl ?_)
      refine O_y hs (Y_move rfl ?_)
      refine O_y hs (Y_move rfl ?_)
      refine O_y hs (Y_add (c := (((za % 14) + (zb % 14) : Nat) : Int)) rfl rfl (by omega) (by omega) ?_)
      refine O_y hs (Y_move rfl ?_)
      refine O_y hs (Y_len Try.underlying22 rfl ?_)
      refine O_y hs (Y_min (c := ((min ((za % 14) + (zb % 14)) ((fewF l).filter fun x => decide (0 < x.length)).length : Nat) : Int)) rfl rfl (by omega) ?_)
      refine O_y hs (Y_assign rfl ?_)
      refine O_nil (T_sub [(5, _), (6, _), (9, _), (10, _), (12, _), (14, _), (15, _), (17, _), (18, _), (19, _), (20, _), (21, _), (22, _)] ⟨rfl, rfl, rfl, rfl, rfl, rfl, rfl, rfl, rfl, rfl, rfl, rfl, rfl, trivial⟩ ?_)
      refine T_seq (T_region rfl ?_)
      refine O_y hs (Y_move rfl ?_)
      refine O_y hs (Y_cmpT rfl rfl rfl (rfl) ?_)
      refine O_y hs (Y_move rfl ?_)
      refine O_yy 92 hs rfl rfl (Y_move rfl ?_)
      refine O_yy 92 hs rfl rfl (Y_cmpT rfl rfl rfl (rfl) ?_)
      refine O_y hs (Y_pickT rfl rfl ?_)
      refine O_y hs (Y_move rfl ?_)
      refine O_yy 96 hs rfl rfl (Y_move rfl ?_)
      refine O_yy 96 hs rfl rfl (Y_cmpT rfl rfl rfl (rfl) ?_)
      refine O_y hs (Y_pickT rfl rfl ?_)
      refine O_y hs (Y_move rfl ?_)
      refine O_yy 100 hs rfl rfl (Y_move rfl ?_)
      refine O_yy 100 hs rfl rfl (Y_cmpT rfl rfl rfl (rfl) ?_)
      refine O_y hs (Y_pickT rfl rfl ?_)
      refine O_y hs (Y_move rfl ?_)
      refine O_yy 104 hs rfl rfl (Y_move rfl ?_)
      refine O_yy 104 hs rfl rfl (Y_move rfl ?_)
      refine O_yy 104 hs rfl rfl (Y_move rfl ?_)
      refine O_yy 104 hs rfl rfl (Y_sliceL hall 0 (min (za % 14) ((fewF l).filter fun x => decide (0 < x.length)).length) Try.underlying22 Try.sizeOf23 rfl rfl ⟨_, _, rfl, rfl⟩ (by omega) (by omega) fun s108 hs108 => ?_)
      obtain ⟨vs108, hsl108, _⟩ := id hs108
      obtain ⟨A108, c108, rfl, _⟩ := id hsl108
      refine O_yes 104 rfl rfl (S_call (H1 := []) hs rfl Try.func22 rfl (by kernel_rfl) (sameBytes_eq hm64 hs108 (by rw [List.length_take]; omega) true (decide_eq_true (by rw [List.drop_zero, Nat.sub_zero, Nat.min_comm]; exact (take_min _ _).symm))) fun v22 G' H' _ hR hG109 hs => ?_)
      obtain ⟨rfl, rfl⟩ := hR
      replace hs : St _ _ [_, _, _, _, _] _ := hs
      replace hall := hall.mono hG109
      replace hu56 := hu56.mono hG109
      replace hw := hw.mono hG109
      replace hu64 := hu64.mono hG109
      replace hm64 := hm64.mono hG109
      replace hu71 := hu71.mono hG109
      replace hu76 := hu76.mono hG109
      replace hm76 := hm76.mono hG109
      replace hs108 := hs108.mono hG109
      refine O_y hs (Y_pickT rfl rfl ?_)
      refine O_y hs (Y_move rfl ?_)
      refine O_yy 111 hs rfl rfl (Y_move rfl ?_)
      refine O_yy 111 hs rfl rfl (Y_move rfl ?_)
      refine O_yy 111 hs rfl rfl (Y_move rfl ?_)
      refine O_yy 111 hs rfl rfl (Y_move rfl ?_)
      refine O_yy 111 hs rfl rfl (Y_sliceL hall (min (za % 14) ((fewF l).filter fun x => decide (0 < x.length)).length) (min ((za % 14) + (zb % 14)) ((fewF l).filter fun x => decide (0 < x.length)).length) Try.underlying22 Try.sizeOf23 rfl ⟨_, _, rfl, rfl⟩ ⟨_, _, rfl, rfl⟩ (by omega) (by omega) fun s116 hs116 => ?_)
      obtain ⟨vs116, hsl116, _⟩ := id hs116
      obtain ⟨A116, c116, rfl, _⟩ := id hsl116
      refine O_yes 111 rfl rfl (S_call (H1 := []) hs rfl Try.func22 rfl (by kernel_rfl) (sameBytes_eq hm76 hs116 (by rw [List.length_take]; omega) true (decide_eq_true (credits_slice _ _ _))) fun v23 G' H' _ hR hG117 hs => ?_)
      obtain ⟨rfl, rfl⟩ := hR
      replace hs : St _ _ [_, _, _, _, _] _ := hs
      replace hall := hall.mono hG117
      replace hu56 := hu56.mono hG117
      replace hw := hw.mono hG117
      replace hu64 := hu64.mono hG117
      replace hm64 := hm64.mono hG117
      replace hu71 := hu71.mono hG117
      replace hu76 := hu76.mono hG117
      replace hm76 := hm76.mono hG117
      replace hs108 := hs108.mono hG117
      replace hs116 := hs116.mono hG117
      refine O_y hs (Y_pickT rfl rfl ?_)
      refine O_y hs (Y_move rfl ?_)
      refine O_yy 119 hs rfl rfl (Y_fieldAddr FO28_1 rfl (m := 1) rfl ?_)
      refine O_yy 119 hs rfl rfl (Y_ld 0 Try.isAgg3 rfl rfl rfl ?_)
      refine O_yy 119 hs rfl rfl (Y_move rfl ?_)
      refine O_yy 119 hs rfl rfl (Y_move rfl ?_)
      refine O_yy 119 hs rfl rfl (Y_add (c := (((za % 14) + (zb % 14) : Nat) : Int)) rfl rfl (by omega) (by omega) ?_)
      refine O_yy 119 hs rfl rfl (Y_move rfl ?_)
      refine O_yy 119 hs rfl rfl (Y_sub (c := (((za % 14) + (zb % 14) - min ((za % 14) + (zb % 14)) ((fewF l).filter fun x => decide (0 < x.length)).length : Nat) : Int)) rfl rfl (by omega) (by omega) ?_)
      refine O_yy 119 hs rfl rfl (Y_cmpT rfl rfl rfl (by dsimp only [cmpP]; rw [List.length_drop, credits_left]) ?_)
      refine O_y hs (Y_pickT rfl rfl ?_)
      refine O_y hs (Y_move rfl ?_)
      refine O_yy 129 hs rfl rfl (Y_move rfl ?_)
      refine O_y hs (Y_pickT rfl rfl ?_)
      refine O_y hs (Y_assign rfl ?_)
      refine O_nil (T_sub [(4, _)] ⟨rfl, trivial⟩ ?_)
      refine T_ret ?_
      refine Rt_fin (vs := [_]) Try.results8 rfl ⟨rfl, trivial⟩ ?_
      try dsimp only [tup]
      exact ⟨_, [], hs.done, rfl, rfl⟩

end Go.Proofs.Ytacchhkefnokdaa
