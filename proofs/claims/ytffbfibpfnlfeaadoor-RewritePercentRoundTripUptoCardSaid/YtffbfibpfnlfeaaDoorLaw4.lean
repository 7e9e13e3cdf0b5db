import Derived.Test.YtffbfibpfnlfeaaDoorExWalks4
import Derived.Test.YtffbfibpfnlfeaaDoorProg
import Derived.Test.YtffbfibpfnlfeaaDoorPlain
import Derived.Test.YtffbfibpfnlfeaaDoorShelf
namespace Go.Proofs.YtffbfibpfnlfeaaDoor
open Go Go.Ex Go.RowKit





set_option maxHeartbeats 400000 in
set_option maxRecDepth 10000 in
theorem law4_n {G : Ghost} {v v2 : Value} {b c : List UInt8} (hb : Bytes G v b) (hl : b.length ≤ 10000000) (hc : Bytes G v2 c) (hlc : c.length ≤ 10000000) {q : Bool} (hz : percF false 0 c = none) (hT : Tab G) (hm : MaxL G) :
    FnOk Tryd.prog 4 [v, v2, .bool q] G [] fun r _ H' => H' = [] ∧ r = .bool true := by
  obtain ⟨A, cap, rfl, _⟩ := id hb
  obtain ⟨Ac, capc, rfl, _⟩ := id hc
  obtain ⟨zl, hw⟩ := percF_true c 0
  refine FnOk.of_T [(0, _), (1, _), (2, _)] Tryd.func4 rfl Tryd.ntmps4 (by simp) rfl fun w0 hs => ?_
  have hb0 := hb
  have hc0 := hc
  have hT0 := hT
  have hm0 := hm
  refine T_seq (T_region rfl ?_)
  refine O_y hs (Y_assign rfl ?_)
  refine O_nil (T_sub [(0, _), (1, _), (2, _)] ⟨rfl, rfl, rfl, trivial⟩ ?_)
  refine T_seq (T_region rfl ?_)
  refine O_s (S_call (H1 := []) hs rfl Tryd.func6 rfl (by kernel_rfl) (sanity_ok hT hm) fun v1 G' H' _ hR hG19 hs => ?_)
  obtain ⟨rfl, rfl⟩ := hR
  replace hs : St _ _ [] _ := hs
  replace hb := hb.mono hG19
  replace hc := hc.mono hG19
  replace hT := hT.mono hG19
  replace hm := hm.mono hG19
  refine O_y hs (Y_assign rfl ?_)
  refine O_nil (T_sub [(0, _), (1, _), (2, _), (7, _)] ⟨rfl, rfl, rfl, rfl, trivial⟩ ?_)
  refine T_seq (T_region rfl ?_)
  refine O_y hs (Y_assign rfl ?_)
  refine O_nil (T_sub [(0, _), (1, _), (2, _), (7, _), (8, _)] ⟨rfl, rfl, rfl, rfl, rfl, trivial⟩ ?_)
  refine T_seq (T_seq (T_region rfl ?_))
  refine O_y hs (Y_move rfl ?_)
  refine O_nil (T_sub [(0, _), (1, _), (7, _), (8, _), (20, _)] ⟨rfl, rfl, rfl, rfl, rfl, trivial⟩ ?_)
  refine T_condS rfl (fun hq => ?_) (fun hq => ?_)
  · -- True
    refine T_region rfl ?_
    refine O_y hs (Y_assign rfl ?_)
    refine O_nil (T_sub [(0, _), (1, _), (7, _), (8, _)] ⟨rfl, rfl, rfl, rfl, trivial⟩ ?_)
    refine T_seq (T_region rfl ?_)
    refine O_s (S_lit hs Tryd.underlying22 Tryd.sizeOf5 Tryd.zeroValue5 rfl rfl (by decide) (by decide) rfl (cs := []) rfl rfl fun v2 _ hs _ => ?_)
    refine O_y hs (Y_assign rfl ?_)
    refine O_nil (T_sub [(0, _), (1, _), (7, _), (8, _), (9, _)] ⟨rfl, rfl, rfl, rfl, rfl, trivial⟩ ?_)
    refine T_seq (T_seq (T_region rfl ?_))
    refine O_y hs (Y_assign rfl ?_)
    refine O_nil (T_sub [(0, _), (1, _), (7, _), (8, _), (9, _), (10, _)] ⟨rfl, rfl, rfl, rfl, rfl, rfl, trivial⟩ ?_)
    refine T_block (T_loop (fun m E w => ∃ (k : Nat) (v9 : Value) (G' : Ghost), k ≤ b.length ∧ m = b.length - k ∧ E = ⟨[], [(0, (.slice A b.length cap)), (1, (.slice Ac c.length capc)), (7, .bool true), (8, .string ⟨#[48, 49, 50, 51, 52, 53, 54, 55, 56, 57, 65, 66, 67, 68, 69, 70]⟩), (9, v9), (10, .int .i64 (k : Int))]⟩ ∧ St ⟨w0, G, feet []⟩ G' [.row 5 1 v9 (encF q (b.take k)).length ((encF q (b.take k)).map byteV)] w) (L := [(0, _), (1, _), (7, _), (8, _), (9, _), (10, _)]) ⟨rfl, rfl, rfl, rfl, rfl, rfl, trivial⟩ (⟨0, _, _, by omega, rfl, rfl, hs⟩) fun m E w hI => ?_)
    obtain ⟨k, v9, G', hk, rfl, rfl, hs⟩ := hI
    have hb := hb0.mono hs.le
    have hc := hc0.mono hs.le
    have hT := hT0.mono hs.le
    have hm := hm0.mono hs.le
    refine T_seq (T_seq (T_region rfl ?_))
    refine O_y hs (Y_move rfl ?_)
    refine O_y hs (Y_move rfl ?_)
    refine O_y hs (Y_len Tryd.underlying22 rfl ?_)
    refine O_y hs (Y_cmpS rfl rfl rfl (fun h25 => ?_) (fun h25 => ?_))
    · -- h25: True
      dsimp only [cmpP] at h25
      have hx8 := (b[k]'(by omega)).toNat_lt
      have hel := enc_len q (b.take k)
      rw [List.length_take] at hel
      refine O_nil (T_sub [(0, _), (1, _), (7, _), (8, _), (9, _), (10, _), (25, _)] ⟨rfl, rfl, rfl, rfl, rfl, rfl, rfl, trivial⟩ ?_)
      refine T_condT rfl (T_skip ?_)
      refine T_seq (T_block (T_drawS [0, 1, 2, 3, 4, 5, 6, 7, 8, 9, 10, 11, 12, 13, 14, 15] hs (by kernel_rfl) ?_))
      replace hs := hs.drew
      refine A_take 0 rfl (by kernel_rfl) rfl hs (Y_move rfl ?_)
      refine A_take 1 rfl (by kernel_rfl) rfl hs (Y_move rfl ?_)
      refine A_take 2 rfl (by kernel_rfl) rfl hs (Y_move rfl ?_)
      refine A_take 3 rfl (by kernel_rfl) rfl hs (Y_move rfl ?_)
      refine A_take 4 rfl (by kernel_rfl) rfl hs (Y_idxB hb k Tryd.underlying22 Tryd.sizeOf5 rfl rfl rfl (by omega) fun p32 hp32 => ?_)
      refine A_take 5 rfl (by kernel_rfl) rfl hs (Y_ldG Tryd.isAgg5 rfl (hp32) ?_)
      refine A_take 6 rfl (by kernel_rfl) rfl hs (Y_quoU (c := (((b[k]'(by omega)).toNat / 16 : Nat) : Int)) rfl rfl (by omega) (by decide) (by omega) ?_)
      refine A_take 7 rfl (by kernel_rfl) rfl hs (Y_idxStr (b := (hexS q).getD ((b[k]'(by omega)).toNat / 16) 0) ((b[k]'(by omega)).toNat / 16) Tryd.underlying9 rfl rfl rfl (by rw [hq]; first | exact strU _ (by omega) | exact strL _ (by omega)) ?_)
      refine A_take 8 rfl (by kernel_rfl) rfl hs (Y_move rfl ?_)
      refine A_take 9 rfl (by kernel_rfl) rfl hs (Y_move rfl ?_)
      refine A_take 10 rfl (by kernel_rfl) rfl hs (Y_move rfl ?_)
      refine A_take 11 rfl (by kernel_rfl) rfl hs (Y_idxB hb k Tryd.underlying22 Tryd.sizeOf5 rfl rfl rfl (by omega) fun p39 hp39 => ?_)
      refine A_take 12 rfl (by kernel_rfl) rfl hs (Y_ldG Tryd.isAgg5 rfl (hp39) ?_)
      refine A_take 13 rfl (by kernel_rfl) rfl hs (Y_rem (c := (((b[k]'(by omega)).toNat % 16 : Nat) : Int)) rfl rfl (by omega) (by decide) (by omega) ?_)
      refine A_take 14 rfl (by kernel_rfl) rfl hs (Y_idxStr (b := (hexS q).getD ((b[k]'(by omega)).toNat % 16) 0) ((b[k]'(by omega)).toNat % 16) Tryd.underlying9 rfl rfl rfl (by rw [hq]; first | exact strU _ (by omega) | exact strL _ (by omega)) ?_)
      have hle := hs.le
      refine A_only 15 rfl (by kernel_rfl) rfl (S_lit hs Tryd.underlying22 Tryd.sizeOf5 Tryd.zeroValue5 rfl rfl (by decide) (by decide) rfl (cs := [_, _, _]) rfl rfl fun v3 _ hs _ => ?_)
      obtain ⟨_, hG43, hl43, hs⟩ := hs.fixRow noM
      replace hb := hb.mono hG43
      replace hc := hc.mono hG43
      replace hT := hT.mono hG43
      replace hm := hm.mono hG43
      refine A_moreS hs hle hG43 (List.Sublist.refl _) ?_
      refine A_tail 16 rfl (by kernel_rfl) (by kernel_rfl) rfl (S_append hs Tryd.underlying22 TI5 rfl (by decide) rfl rfl (hl43) (three1 rfl rfl rfl) (by omega) (by omega) fun v4 _ hs => ?_)
      refine A_tail 17 rfl (by kernel_rfl) (by kernel_rfl) rfl (S_y hs rfl (Y_assign rfl ?_))
      refine A_done (by kernel_rfl) (T_sub [(0, _), (1, _), (7, _), (8, _), (9, _), (10, _)] ⟨rfl, rfl, rfl, rfl, rfl, rfl, trivial⟩ ?_)
      refine T_region rfl ?_
      refine O_y hs (Y_move rfl ?_)
      refine O_y hs (Y_add (c := ((k + 1 : Nat) : Int)) rfl rfl (by omega) (by omega) ?_)
      refine O_y hs (Y_assign rfl ?_)
      refine O_nil ⟨_, ?_, [(0, _), (1, _), (7, _), (8, _), (9, _), (10, _)], ⟨rfl, rfl, rfl, rfl, rfl, rfl, trivial⟩, ⟨k + 1, _, _, by omega, rfl, rfl, by rw [enc_snoc q b k (by omega), List.length_append, List.map_append]; exact hs⟩⟩
      omega
    · -- h25: False
      dsimp only [cmpP] at h25
      refine O_nil (T_sub [(0, _), (1, _), (7, _), (8, _), (9, _), (10, _), (25, _)] ⟨rfl, rfl, rfl, rfl, rfl, rfl, rfl, trivial⟩ ?_)
      refine T_condF rfl (T_exit ?_)
      obtain rfl : k = b.length := by omega
      rw [List.take_length] at hs
      obtain ⟨_, hGz, hco, hsz⟩ := hs.fixRow noM
      clear hs
      replace hb := hb.mono hGz
      replace hc := hc.mono hGz
      replace hT := hT.mono hGz
      replace hm := hm.mono hGz
      replace hco : Bytes _ _ (encF q b) := hco
      obtain ⟨A9, c9, rfl, _⟩ := id hco
      have hs := hsz
      have hel := enc_len q b
      refine T_seq (T_region rfl ?_)
      refine O_y hs (Y_build Tryd.zeroValue25 rfl PL25 rfl (cs := [_, _, _]) rfl ?_)
      refine O_y hs (Y_move rfl ?_)
      refine O_s (S_call (H1 := []) hs rfl Tryd.func7 rfl (by kernel_rfl) (do_eq (o := ⟨3, [], []⟩) (some (b)) (by rw [do3, enc_dec]) ⟨_, _, rfl, Sl.nil _ _, Sl.nil _ _⟩ hco (by omega) hm) fun v5 G' H' _ hR hG48 hs => ?_)
      obtain ⟨rfl, u48, rfl, hx⟩ := hR
      replace hs : St _ _ [] _ := hs
      replace hb := hb.mono hG48
      replace hc := hc.mono hG48
      replace hT := hT.mono hG48
      replace hm := hm.mono hG48
      replace hco := hco.mono hG48
      replace hx : Bytes _ _ (b) := hx
      obtain ⟨A48, c48, rfl, _⟩ := id hx
      refine O_y hs (Y_move rfl ?_)
      refine O_y hs (Y_extract rfl rfl ?_)
      refine O_y hs (Y_extract rfl rfl ?_)
      refine O_y hs (Y_assign rfl ?_)
      refine O_y hs (Y_assign rfl ?_)
      refine O_nil (T_sub [(0, _), (1, _), (7, _), (9, _), (11, _), (12, _)] ⟨rfl, rfl, rfl, rfl, rfl, rfl, trivial⟩ ?_)
      refine T_seq (T_region rfl ?_)
      refine O_y hs (Y_build Tryd.zeroValue25 rfl PL25 rfl (cs := [_, _, _]) rfl ?_)
      refine O_y hs (Y_move rfl ?_)
      refine O_s (S_call (H1 := []) hs rfl Tryd.func7 rfl (by kernel_rfl) (do_eq (o := ⟨4, [], []⟩) (some (b)) (by rw [do4, enc_dec]) ⟨_, _, rfl, Sl.nil _ _, Sl.nil _ _⟩ hco (by omega) hm) fun v6 G' H' _ hR hG54 hs => ?_)
      obtain ⟨rfl, u54, rfl, hy⟩ := hR
      replace hs : St _ _ [] _ := hs
      replace hb := hb.mono hG54
      replace hc := hc.mono hG54
      replace hT := hT.mono hG54
      replace hm := hm.mono hG54
      replace hco := hco.mono hG54
      replace hx := hx.mono hG54
      replace hy : Bytes _ _ (b) := hy
      obtain ⟨A54, c54, rfl, _⟩ := id hy
      refine O_y hs (Y_move rfl ?_)
      refine O_y hs (Y_extract rfl rfl ?_)
      refine O_y hs (Y_extract rfl rfl ?_)
      refine O_y hs (Y_assign rfl ?_)
      refine O_y hs (Y_assign rfl ?_)
      refine O_nil (T_sub [(0, _), (1, _), (7, _), (11, _), (12, _), (13, _), (14, _)] ⟨rfl, rfl, rfl, rfl, rfl, rfl, rfl, trivial⟩ ?_)
      refine T_seq (T_region rfl ?_)
      refine O_y hs (Y_build Tryd.zeroValue25 rfl PL25 rfl (cs := [_, _, _]) rfl ?_)
      refine O_y hs (Y_move rfl ?_)
      refine O_s (S_call (H1 := []) hs rfl Tryd.func7 rfl (by kernel_rfl) (do_eq (o := ⟨3, [], []⟩) (none) (by rw [do3, hz]) ⟨_, _, rfl, Sl.nil _ _, Sl.nil _ _⟩ hc (by omega) hm) fun v7 G' H' _ hR hG60 hs => ?_)
      obtain ⟨rfl, u60, rfl, hzz⟩ := hR
      replace hs : St _ _ [] _ := hs
      replace hb := hb.mono hG60
      replace hc := hc.mono hG60
      replace hT := hT.mono hG60
      replace hm := hm.mono hG60
      replace hco := hco.mono hG60
      replace hx := hx.mono hG60
      replace hy := hy.mono hG60
      replace hzz : Bytes _ _ ([]) := hzz
      obtain ⟨A60, c60, rfl, _⟩ := id hzz
      refine O_y hs (Y_move rfl ?_)
      refine O_y hs (Y_extract rfl rfl ?_)
      refine O_y hs (Y_extract rfl rfl ?_)
      refine O_y hs (Y_assign rfl ?_)
      refine O_y hs (Y_assign rfl ?_)
      refine O_nil (T_sub [(0, _), (1, _), (7, _), (11, _), (12, _), (13, _), (14, _), (15, _), (16, _)] ⟨rfl, rfl, rfl, rfl, rfl, rfl, rfl, rfl, rfl, trivial⟩ ?_)
      refine T_seq (T_region rfl ?_)
      refine O_y hs (Y_build Tryd.zeroValue25 rfl PL25 rfl (cs := [_, _, _]) rfl ?_)
      refine O_y hs (Y_move rfl ?_)
      refine O_s (S_call (H1 := []) hs rfl Tryd.func7 rfl (by kernel_rfl) (do_eq (o := ⟨4, [], []⟩) (some (zl)) (by rw [do4, hw]) ⟨_, _, rfl, Sl.nil _ _, Sl.nil _ _⟩ hc (by omega) hm) fun v8 G' H' _ hR hG66 hs => ?_)
      obtain ⟨rfl, u66, rfl, hww⟩ := hR
      replace hs : St _ _ [] _ := hs
      replace hb := hb.mono hG66
      replace hc := hc.mono hG66
      replace hT := hT.mono hG66
      replace hm := hm.mono hG66
      replace hco := hco.mono hG66
      replace hx := hx.mono hG66
      replace hy := hy.mono hG66
      replace hzz := hzz.mono hG66
      replace hww : Bytes _ _ (zl) := hww
      obtain ⟨A66, c66, rfl, _⟩ := id hww
      refine O_y hs (Y_move rfl ?_)
      refine O_y hs (Y_extract rfl rfl ?_)
      refine O_y hs (Y_extract rfl rfl ?_)
      refine O_y hs (Y_assign rfl ?_)
      refine O_y hs (Y_assign rfl ?_)
      refine O_nil (T_sub [(0, _), (1, _), (7, _), (11, _), (12, _), (13, _), (14, _), (15, _), (16, _), (17, _), (18, _)] ⟨rfl, rfl, rfl, rfl, rfl, rfl, rfl, rfl, rfl, rfl, rfl, trivial⟩ ?_)
      refine T_seq (T_region rfl ?_)
      refine O_y hs (Y_move rfl ?_)
      refine O_y hs (Y_move rfl ?_)
      refine O_yy 70 hs rfl rfl (Y_move rfl ?_)
      refine O_y hs (Y_pickT rfl rfl ?_)
      refine O_y hs (Y_move rfl ?_)
      refine O_yy 73 hs rfl rfl (Y_move rfl ?_)
      refine O_y hs (Y_pickT rfl rfl ?_)
      refine O_y hs (Y_move rfl ?_)
      refine O_yy 76 hs rfl rfl (Y_move rfl ?_)
      refine O_y hs (Y_pickT rfl rfl ?_)
      refine O_y hs (Y_move rfl ?_)
      refine O_yy 79 hs rfl rfl (Y_move rfl ?_)
      refine O_yy 79 hs rfl rfl (Y_move rfl ?_)
      refine O_yes 79 rfl rfl (S_call (H1 := []) hs rfl Tryd.func8 rfl (by kernel_rfl) (same_ok hx hb) fun v9 G' H' _ hR hG82 hs => ?_)
      obtain ⟨rfl, rfl⟩ := hR
      replace hs : St _ _ [] _ := hs
      replace hb := hb.mono hG82
      replace hc := hc.mono hG82
      replace hT := hT.mono hG82
      replace hm := hm.mono hG82
      replace hco := hco.mono hG82
      replace hx := hx.mono hG82
      replace hy := hy.mono hG82
      replace hzz := hzz.mono hG82
      replace hww := hww.mono hG82
      rw [decide_eq_true (show _ = _ from rfl)]
      refine O_y hs (Y_pickT rfl rfl ?_)
      refine O_y hs (Y_move rfl ?_)
      refine O_yy 84 hs rfl rfl (Y_move rfl ?_)
      refine O_yy 84 hs rfl rfl (Y_move rfl ?_)
      refine O_yes 84 rfl rfl (S_call (H1 := []) hs rfl Tryd.func8 rfl (by kernel_rfl) (same_ok hy hb) fun v10 G' H' _ hR hG87 hs => ?_)
      obtain ⟨rfl, rfl⟩ := hR
      replace hs : St _ _ [] _ := hs
      replace hb := hb.mono hG87
      replace hc := hc.mono hG87
      replace hT := hT.mono hG87
      replace hm := hm.mono hG87
      replace hco := hco.mono hG87
      replace hx := hx.mono hG87
      replace hy := hy.mono hG87
      replace hzz := hzz.mono hG87
      replace hww := hww.mono hG87
      rw [decide_eq_true (show _ = _ from rfl)]
      refine O_y hs (Y_pickT rfl rfl ?_)
      refine O_y hs (Y_move rfl ?_)
      refine O_yy 89 hs rfl rfl (Y_move rfl ?_)
      refine O_yy 89 hs rfl rfl (Y_not rfl ?_)
      refine O_yy 89 hs rfl rfl (Y_move rfl ?_)
      refine O_no 92 rfl rfl ?_
      refine O_no 92 rfl rfl ?_
      refine O_no 92 rfl rfl ?_
      refine O_yy 89 hs rfl rfl (Y_pickT rfl rfl ?_)
      refine O_y hs (Y_pickT rfl rfl ?_)
      refine O_y hs (Y_move rfl ?_)
      refine O_yy 98 hs rfl rfl (Y_move rfl ?_)
      refine O_yy 98 hs rfl rfl (Y_len Tryd.underlying22 rfl ?_)
      refine O_yy 98 hs rfl rfl (Y_move rfl ?_)
      refine O_yy 98 hs rfl rfl (Y_len Tryd.underlying22 rfl ?_)
      refine O_yy 98 hs rfl rfl (Y_cmpT rfl rfl rfl (by have := percF_len c 0 _ hw; simp only [cmpP]; omega) ?_)
      refine O_y hs (Y_pickT rfl rfl ?_)
      refine O_y hs (Y_assign rfl ?_)
      refine O_nil (T_sub [(6, _)] ⟨rfl, trivial⟩ ?_)
      refine T_ret ?_
      refine Rt_fin (vs := [_]) Tryd.results4 rfl ⟨rfl, trivial⟩ ?_
      try dsimp only [tup]
      exact ⟨_, [], hs.done, rfl, rfl⟩
  · -- False
    refine T_skip ?_
    refine T_seq (T_region rfl ?_)
    refine O_s (S_lit hs Tryd.underlying22 Tryd.sizeOf5 Tryd.zeroValue5 rfl rfl (by decide) (by decide) rfl (cs := []) rfl rfl fun v11 _ hs _ => ?_)
    refine O_y hs (Y_assign rfl ?_)
    refine O_nil (T_sub [(0, _), (1, _), (7, _), (8, _), (9, _)] ⟨rfl, rfl, rfl, rfl, rfl, trivial⟩ ?_)
    refine T_seq (T_seq (T_region rfl ?_))
    refine O_y hs (Y_assign rfl ?_)
    refine O_nil (T_sub [(0, _), (1, _), (7, _), (8, _), (9, _), (10, _)] ⟨rfl, rfl, rfl, rfl, rfl, rfl, trivial⟩ ?_)
    refine T_block (T_loop (fun m E w => ∃ (k : Nat) (v9 : Value) (G' : Ghost), k ≤ b.length ∧ m = b.length - k ∧ E = ⟨[], [(0, (.slice A b.length cap)), (1, (.slice Ac c.length capc)), (7, .bool true), (8, .string ⟨#[48, 49, 50, 51, 52, 53, 54, 55, 56, 57, 97, 98, 99, 100, 101, 102]⟩), (9, v9), (10, .int .i64 (k : Int))]⟩ ∧ St ⟨w0, G, feet []⟩ G' [.row 5 1 v9 (encF q (b.take k)).length ((encF q (b.take k)).map byteV)] w) (L := [(0, _), (1, _), (7, _), (8, _), (9, _), (10, _)]) ⟨rfl, rfl, rfl, rfl, rfl, rfl, trivial⟩ (⟨0, _, _, by omega, rfl, rfl, hs⟩) fun m E w hI => ?_)
    obtain ⟨k, v9, G', hk, rfl, rfl, hs⟩ := hI
    have hb := hb0.mono hs.le
    have hc := hc0.mono hs.le
    have hT := hT0.mono hs.le
    have hm := hm0.mono hs.le
    refine T_seq (T_seq (T_region rfl ?_))
    refine O_y hs (Y_move rfl ?_)
    refine O_y hs (Y_move rfl ?_)
    refine O_y hs (Y_len Tryd.underlying22 rfl ?_)
    refine O_y hs (Y_cmpS rfl rfl rfl (fun h25 => ?_) (fun h25 => ?_))
    · -- h25: True
      dsimp only [cmpP] at h25
      have hx8 := (b[k]'(by omega)).toNat_lt
      have hel := enc_len q (b.take k)
      rw [List.length_take] at hel
      refine O_nil (T_sub [(0, _), (1, _), (7, _), (8, _), (9, _), (10, _), (25, _)] ⟨rfl, rfl, rfl, rfl, rfl, rfl, rfl, trivial⟩ ?_)
      refine T_condT rfl (T_skip ?_)
      refine T_seq (T_block (T_drawS [0, 1, 2, 3, 4, 5, 6, 7, 8, 9, 10, 11, 12, 13, 14, 15] hs (by kernel_rfl) ?_))
      replace hs := hs.drew
      refine A_take 0 rfl (by kernel_rfl) rfl hs (Y_move rfl ?_)
      refine A_take 1 rfl (by kernel_rfl) rfl hs (Y_move rfl ?_)
      refine A_take 2 rfl (by kernel_rfl) rfl hs (Y_move rfl ?_)
      refine A_take 3 rfl (by kernel_rfl) rfl hs (Y_move rfl ?_)
      refine A_take 4 rfl (by kernel_rfl) rfl hs (Y_idxB hb k Tryd.underlying22 Tryd.sizeOf5 rfl rfl rfl (by omega) fun p32 hp32 => ?_)
      refine A_take 5 rfl (by kernel_rfl) rfl hs (Y_ldG Tryd.isAgg5 rfl (hp32) ?_)
      refine A_take 6 rfl (by kernel_rfl) rfl hs (Y_quoU (c := (((b[k]'(by omega)).toNat / 16 : Nat) : Int)) rfl rfl (by omega) (by decide) (by omega) ?_)
      refine A_take 7 rfl (by kernel_rfl) rfl hs (Y_idxStr (b := (hexS q).getD ((b[k]'(by omega)).toNat / 16) 0) ((b[k]'(by omega)).toNat / 16) Tryd.underlying9 rfl rfl rfl (by rw [hq]; first | exact strU _ (by omega) | exact strL _ (by omega)) ?_)
      refine A_take 8 rfl (by kernel_rfl) rfl hs (Y_move rfl ?_)
      refine A_take 9 rfl (by kernel_rfl) rfl hs (Y_move rfl ?_)
      refine A_take 10 rfl (by kernel_rfl) rfl hs (Y_move rfl ?_)
      refine A_take 11 rfl (by kernel_rfl) rfl hs (Y_idxB hb k Tryd.underlying22 Tryd.sizeOf5 rfl rfl rfl (by omega) fun p39 hp39 => ?_)
      refine A_take 12 rfl (by kernel_rfl) rfl hs (Y_ldG Tryd.isAgg5 rfl (hp39) ?_)
      refine A_take 13 rfl (by kernel_rfl) rfl hs (Y_rem (c := (((b[k]'(by omega)).toNat % 16 : Nat) : Int)) rfl rfl (by omega) (by decide) (by omega) ?_)
      refine A_take 14 rfl (by kernel_rfl) rfl hs (Y_idxStr (b := (hexS q).getD ((b[k]'(by omega)).toNat % 16) 0) ((b[k]'(by omega)).toNat % 16) Tryd.underlying9 rfl rfl rfl (by rw [hq]; first | exact strU _ (by omega) | exact strL _ (by omega)) ?_)
      have hle := hs.le
      refine A_only 15 rfl (by kernel_rfl) rfl (S_lit hs Tryd.underlying22 Tryd.sizeOf5 Tryd.zeroValue5 rfl rfl (by decide) (by decide) rfl (cs := [_, _, _]) rfl rfl fun v12 _ hs _ => ?_)
      obtain ⟨_, hG43, hl43, hs⟩ := hs.fixRow noM
      replace hb := hb.mono hG43
      replace hc := hc.mono hG43
      replace hT := hT.mono hG43
      replace hm := hm.mono hG43
      refine A_moreS hs hle hG43 (List.Sublist.refl _) ?_
      refine A_tail 16 rfl (by kernel_rfl) (by kernel_rfl) rfl (S_append hs Tryd.underlying22 TI5 rfl (by decide) rfl rfl (hl43) (three1 rfl rfl rfl) (by omega) (by omega) fun v13 _ hs => ?_)
      refine A_tail 17 rfl (by kernel_rfl) (by kernel_rfl) rfl (S_y hs rfl (Y_assign rfl ?_))
      refine A_done (by kernel_rfl) (T_sub [(0, _), (1, _), (7, _), (8, _), (9, _), (10, _)] ⟨rfl, rfl, rfl, rfl, rfl, rfl, trivial⟩ ?_)
      refine T_region rfl ?_
      refine O_y hs (Y_move rfl ?_)
      refine O_y hs (Y_add (c := ((k + 1 : Nat) : Int)) rfl rfl (by omega) (by omega) ?_)
      refine O_y hs (Y_assign rfl ?_)
      refine O_nil ⟨_, ?_, [(0, _), (1, _), (7, _), (8, _), (9, _), (10, _)], ⟨rfl, rfl, rfl, rfl, rfl, rfl, trivial⟩, ⟨k + 1, _, _, by omega, rfl, rfl, by rw [enc_snoc q b k (by omega), List.length_append, List.map_append]; exact hs⟩⟩
      omega
    · -- h25: False
      dsimp only [cmpP] at h25
      refine O_nil (T_sub [(0, _), (1, _), (7, _), (8, _), (9, _), (10, _), (25, _)] ⟨rfl, rfl, rfl, rfl, rfl, rfl, rfl, trivial⟩ ?_)
      refine T_condF rfl (T_exit ?_)
      obtain rfl : k = b.length := by omega
      rw [List.take_length] at hs
      obtain ⟨_, hGz, hco, hsz⟩ := hs.fixRow noM
      clear hs
      replace hb := hb.mono hGz
      replace hc := hc.mono hGz
      replace hT := hT.mono hGz
      replace hm := hm.mono hGz
      replace hco : Bytes _ _ (encF q b) := hco
      obtain ⟨A9, c9, rfl, _⟩ := id hco
      have hs := hsz
      have hel := enc_len q b
      refine T_seq (T_region rfl ?_)
      refine O_y hs (Y_build Tryd.zeroValue25 rfl PL25 rfl (cs := [_, _, _]) rfl ?_)
      refine O_y hs (Y_move rfl ?_)
      refine O_s (S_call (H1 := []) hs rfl Tryd.func7 rfl (by kernel_rfl) (do_eq (o := ⟨3, [], []⟩) (some (b)) (by rw [do3, enc_dec]) ⟨_, _, rfl, Sl.nil _ _, Sl.nil _ _⟩ hco (by omega) hm) fun v14 G' H' _ hR hG48 hs => ?_)
      obtain ⟨rfl, u48, rfl, hx⟩ := hR
      replace hs : St _ _ [] _ := hs
      replace hb := hb.mono hG48
      replace hc := hc.mono hG48
      replace hT := hT.mono hG48
      replace hm := hm.mono hG48
      replace hco := hco.mono hG48
      replace hx : Bytes _ _ (b) := hx
      obtain ⟨A48, c48, rfl, _⟩ := id hx
      refine O_y hs (Y_move rfl ?_)
      refine O_y hs (Y_extract rfl rfl ?_)
      refine O_y hs (Y_extract rfl rfl ?_)
      refine O_y hs (Y_assign rfl ?_)
      refine O_y hs (Y_assign rfl ?_)
      refine O_nil (T_sub [(0, _), (1, _), (7, _), (9, _), (11, _), (12, _)] ⟨rfl, rfl, rfl, rfl, rfl, rfl, trivial⟩ ?_)
      refine T_seq (T_region rfl ?_)
      refine O_y hs (Y_build Tryd.zeroValue25 rfl PL25 rfl (cs := [_, _, _]) rfl ?_)
      refine O_y hs (Y_move rfl ?_)
      refine O_s (S_call (H1 := []) hs rfl Tryd.func7 rfl (by kernel_rfl) (do_eq (o := ⟨4, [], []⟩) (some (b)) (by rw [do4, enc_dec]) ⟨_, _, rfl, Sl.nil _ _, Sl.nil _ _⟩ hco (by omega) hm) fun v15 G' H' _ hR hG54 hs => ?_)
      obtain ⟨rfl, u54, rfl, hy⟩ := hR
      replace hs : St _ _ [] _ := hs
      replace hb := hb.mono hG54
      replace hc := hc.mono hG54
      replace hT := hT.mono hG54
      replace hm := hm.mono hG54
      replace hco := hco.mono hG54
      replace hx := hx.mono hG54
      replace hy : Bytes _ _ (b) := hy
      obtain ⟨A54, c54, rfl, _⟩ := id hy
      refine O_y hs (Y_move rfl ?_)
      refine O_y hs (Y_extract rfl rfl ?_)
      refine O_y hs (Y_extract rfl rfl ?_)
      refine O_y hs (Y_assign rfl ?_)
      refine O_y hs (Y_assign rfl ?_)
      refine O_nil (T_sub [(0, _), (1, _), (7, _), (11, _), (12, _), (13, _), (14, _)] ⟨rfl, rfl, rfl, rfl, rfl, rfl, rfl, trivial⟩ ?_)
      refine T_seq (T_region rfl ?_)
      refine O_y hs (Y_build Tryd.zeroValue25 rfl PL25 rfl (cs := [_, _, _]) rfl ?_)
      refine O_y hs (Y_move rfl ?_)
      refine O_s (S_call (H1 := []) hs rfl Tryd.func7 rfl (by kernel_rfl) (do_eq (o := ⟨3, [], []⟩) (none) (by rw [do3, hz]) ⟨_, _, rfl, Sl.nil _ _, Sl.nil _ _⟩ hc (by omega) hm) fun v16 G' H' _ hR hG60 hs => ?_)
      obtain ⟨rfl, u60, rfl, hzz⟩ := hR
      replace hs : St _ _ [] _ := hs
      replace hb := hb.mono hG60
      replace hc := hc.mono hG60
      replace hT := hT.mono hG60
      replace hm := hm.mono hG60
      replace hco := hco.mono hG60
      replace hx := hx.mono hG60
      replace hy := hy.mono hG60
      replace hzz : Bytes _ _ ([]) := hzz
      obtain ⟨A60, c60, rfl, _⟩ := id hzz
      refine O_y hs (Y_move rfl ?_)
      refine O_y hs (Y_extract rfl rfl ?_)
      refine O_y hs (Y_extract rfl rfl ?_)
      refine O_y hs (Y_assign rfl ?_)
      refine O_y hs (Y_assign rfl ?_)
      refine O_nil (T_sub [(0, _), (1, _), (7, _), (11, _), (12, _), (13, _), (14, _), (15, _), (16, _)] ⟨rfl, rfl, rfl, rfl, rfl, rfl, rfl, rfl, rfl, trivial⟩ ?_)
      refine T_seq (T_region rfl ?_)
      refine O_y hs (Y_build Tryd.zeroValue25 rfl PL25 rfl (cs := [_, _, _]) rfl ?_)
      refine O_y hs (Y_move rfl ?_)
      refine O_s (S_call (H1 := []) hs rfl Tryd.func7 rfl (by kernel_rfl) (do_eq (o := ⟨4, [], []⟩) (some (zl)) (by rw [do4, hw]) ⟨_, _, rfl, Sl.nil _ _, Sl.nil _ _⟩ hc (by omega) hm) fun v17 G' H' _ hR hG66 hs => ?_)
      obtain ⟨rfl, u66, rfl, hww⟩ := hR
      replace hs : St _ _ [] _ := hs
      replace hb := hb.mono hG66
      replace hc := hc.mono hG66
      replace hT := hT.mono hG66
      replace hm := hm.mono hG66
      replace hco := hco.mono hG66
      replace hx := hx.mono hG66
      replace hy := hy.mono hG66
      replace hzz := hzz.mono hG66
      replace hww : Bytes _ _ (zl) := hww
      obtain ⟨A66, c66, rfl, _⟩ := id hww
      refine O_y hs (Y_move rfl ?_)
      refine O_y hs (Y_extract rfl rfl ?_)
      refine O_y hs (Y_extract rfl rfl ?_)
      refine O_y hs (Y_assign rfl ?_)
      refine O_y hs (Y_assign rfl ?_)
      refine O_nil (T_sub [(0, _), (1, _), (7, _), (11, _), (12, _), (13, _), (14, _), (15, _), (16, _), (17, _), (18, _)] ⟨rfl, rfl, rfl, rfl, rfl, rfl, rfl, rfl, rfl, rfl, rfl, trivial⟩ ?_)
      refine T_seq (T_region rfl ?_)
      refine O_y hs (Y_move rfl ?_)
      refine O_y hs (Y_move rfl ?_)
      refine O_yy 70 hs rfl rfl (Y_move rfl ?_)
      refine O_y hs (Y_pickT rfl rfl ?_)
      refine O_y hs (Y_move rfl ?_)
      refine O_yy 73 hs rfl rfl (Y_move rfl ?_)
      refine O_y hs (Y_pickT rfl rfl ?_)
      refine O_y hs (Y_move rfl ?_)
      refine O_yy 76 hs rfl rfl (Y_move rfl ?_)
      refine O_y hs (Y_pickT rfl rfl ?_)
      refine O_y hs (Y_move rfl ?_)
      refine O_yy 79 hs rfl rfl (Y_move rfl ?_)
      refine O_yy 79 hs rfl rfl (Y_move rfl ?_)
      refine O_yes 79 rfl rfl (S_call (H1 := []) hs rfl Tryd.func8 rfl (by kernel_rfl) (same_ok hx hb) fun v18 G' H' _ hR hG82 hs => ?_)
      obtain ⟨rfl, rfl⟩ := hR
      replace hs : St _ _ [] _ := hs
      replace hb := hb.mono hG82
      replace hc := hc.mono hG82
      replace hT := hT.mono hG82
      replace hm := hm.mono hG82
      replace hco := hco.mono hG82
      replace hx := hx.mono hG82
      replace hy := hy.mono hG82
      replace hzz := hzz.mono hG82
      replace hww := hww.mono hG82
      rw [decide_eq_true (show _ = _ from rfl)]
      refine O_y hs (Y_pickT rfl rfl ?_)
      refine O_y hs (Y_move rfl ?_)
      refine O_yy 84 hs rfl rfl (Y_move rfl ?_)
      refine O_yy 84 hs rfl rfl (Y_move rfl ?_)
      refine O_yes 84 rfl rfl (S_call (H1 := []) hs rfl Tryd.func8 rfl (by kernel_rfl) (same_ok hy hb) fun v19 G' H' _ hR hG87 hs => ?_)
      obtain ⟨rfl, rfl⟩ := hR
      replace hs : St _ _ [] _ := hs
      replace hb := hb.mono hG87
      replace hc := hc.mono hG87
      replace hT := hT.mono hG87
      replace hm := hm.mono hG87
      replace hco := hco.mono hG87
      replace hx := hx.mono hG87
      replace hy := hy.mono hG87
      replace hzz := hzz.mono hG87
      replace hww := hww.mono hG87
      rw [decide_eq_true (show _ = _ from rfl)]
      refine O_y hs (Y_pickT rfl rfl ?_)
      refine O_y hs (Y_move rfl ?_)
      refine O_yy 89 hs rfl rfl (Y_move rfl ?_)
      refine O_yy 89 hs rfl rfl (Y_not rfl ?_)
      refine O_yy 89 hs rfl rfl (Y_move rfl ?_)
      refine O_no 92 rfl rfl ?_
      refine O_no 92 rfl rfl ?_
      refine O_no 92 rfl rfl ?_
      refine O_yy 89 hs rfl rfl (Y_pickT rfl rfl ?_)
      refine O_y hs (Y_pickT rfl rfl ?_)
      refine O_y hs (Y_move rfl ?_)
      refine O_yy 98 hs rfl rfl (Y_move rfl ?_)
      refine O_yy 98 hs rfl rfl (Y_len Tryd.underlying22 rfl ?_)
      refine O_yy 98 hs rfl rfl (Y_move rfl ?_)
      refine O_yy 98 hs rfl rfl (Y_len Tryd.underlying22 rfl ?_)
      refine O_yy 98 hs rfl rfl (Y_cmpT rfl rfl rfl (by have := percF_len c 0 _ hw; simp only [cmpP]; omega) ?_)
      refine O_y hs (Y_pickT rfl rfl ?_)
      refine O_y hs (Y_assign rfl ?_)
      refine O_nil (T_sub [(6, _)] ⟨rfl, trivial⟩ ?_)
      refine T_ret ?_
      refine Rt_fin (vs := [_]) Tryd.results4 rfl ⟨rfl, trivial⟩ ?_
      try dsimp only [tup]
      exact ⟨_, [], hs.done, rfl, rfl⟩

set_option maxHeartbeats 400000 in
set_option maxRecDepth 10000 in
theorem law4_s {G : Ghost} {v v2 : Value} {b c : List UInt8} (hb : Bytes G v b) (hl : b.length ≤ 10000000) (hc : Bytes G v2 c) (hlc : c.length ≤ 10000000) {q : Bool} {z : List UInt8} (hz : percF false 0 c = some z) (hT : Tab G) (hm : MaxL G) :
    FnOk Tryd.prog 4 [v, v2, .bool q] G [] fun r _ H' => H' = [] ∧ r = .bool true := by
  obtain ⟨A, cap, rfl, _⟩ := id hb
  obtain ⟨Ac, capc, rfl, _⟩ := id hc
  have hw := percF_lax c 0 z hz
  refine FnOk.of_T [(0, _), (1, _), (2, _)] Tryd.func4 rfl Tryd.ntmps4 (by simp) rfl fun w0 hs => ?_
  have hb0 := hb
  have hc0 := hc
  have hT0 := hT
  have hm0 := hm
  refine T_seq (T_region rfl ?_)
  refine O_y hs (Y_assign rfl ?_)
  refine O_nil (T_sub [(0, _), (1, _), (2, _)] ⟨rfl, rfl, rfl, trivial⟩ ?_)
  refine T_seq (T_region rfl ?_)
  refine O_s (S_call (H1 := []) hs rfl Tryd.func6 rfl (by kernel_rfl) (sanity_ok hT hm) fun v1 G' H' _ hR hG19 hs => ?_)
  obtain ⟨rfl, rfl⟩ := hR
  replace hs : St _ _ [] _ := hs
  replace hb := hb.mono hG19
  replace hc := hc.mono hG19
  replace hT := hT.mono hG19
  replace hm := hm.mono hG19
  refine O_y hs (Y_assign rfl ?_)
  refine O_nil (T_sub [(0, _), (1, _), (2, _), (7, _)] ⟨rfl, rfl, rfl, rfl, trivial⟩ ?_)
  refine T_seq (T_region rfl ?_)
  refine O_y hs (Y_assign rfl ?_)
  refine O_nil (T_sub [(0, _), (1, _), (2, _), (7, _), (8, _)] ⟨rfl, rfl, rfl, rfl, rfl, trivial⟩ ?_)
  refine T_seq (T_seq (T_region rfl ?_))
  refine O_y hs (Y_move rfl ?_)
  refine O_nil (T_sub [(0, _), (1, _), (7, _), (8, _), (20, _)] ⟨rfl, rfl, rfl, rfl, rfl, trivial⟩ ?_)
  refine T_condS rfl (fun hq => ?_) (fun hq => ?_)
  · -- True
    refine T_region rfl ?_
    refine O_y hs (Y_assign rfl ?_)
    refine O_nil (T_sub [(0, _), (1, _), (7, _), (8, _)] ⟨rfl, rfl, rfl, rfl, trivial⟩ ?_)
    refine T_seq (T_region rfl ?_)
    refine O_s (S_lit hs Tryd.underlying22 Tryd.sizeOf5 Tryd.zeroValue5 rfl rfl (by decide) (by decide) rfl (cs := []) rfl rfl fun v2 _ hs _ => ?_)
    refine O_y hs (Y_assign rfl ?_)
    refine O_nil (T_sub [(0, _), (1, _), (7, _), (8, _), (9, _)] ⟨rfl, rfl, rfl, rfl, rfl, trivial⟩ ?_)
    refine T_seq (T_seq (T_region rfl ?_))
    refine O_y hs (Y_assign rfl ?_)
    refine O_nil (T_sub [(0, _), (1, _), (7, _), (8, _), (9, _), (10, _)] ⟨rfl, rfl, rfl, rfl, rfl, rfl, trivial⟩ ?_)
    refine T_block (T_loop (fun m E w => ∃ (k : Nat) (v9 : Value) (G' : Ghost), k ≤ b.length ∧ m = b.length - k ∧ E = ⟨[], [(0, (.slice A b.length cap)), (1, (.slice Ac c.length capc)), (7, .bool true), (8, .string ⟨#[48, 49, 50, 51, 52, 53, 54, 55, 56, 57, 65, 66, 67, 68, 69, 70]⟩), (9, v9), (10, .int .i64 (k : Int))]⟩ ∧ St ⟨w0, G, feet []⟩ G' [.row 5 1 v9 (encF q (b.take k)).length ((encF q (b.take k)).map byteV)] w) (L := [(0, _), (1, _), (7, _), (8, _), (9, _), (10, _)]) ⟨rfl, rfl, rfl, rfl, rfl, rfl, trivial⟩ (⟨0, _, _, by omega, rfl, rfl, hs⟩) fun m E w hI => ?_)
    obtain ⟨k, v9, G', hk, rfl, rfl, hs⟩ := hI
    have hb := hb0.mono hs.le
    have hc := hc0.mono hs.le
    have hT := hT0.mono hs.le
    have hm := hm0.mono hs.le
    refine T_seq (T_seq (T_region rfl ?_))
    refine O_y hs (Y_move rfl ?_)
    refine O_y hs (Y_move rfl ?_)
    refine O_y hs (Y_len Tryd.underlying22 rfl ?_)
    refine O_y hs (Y_cmpS rfl rfl rfl (fun h25 => ?_) (fun h25 => ?_))
    · -- h25: True
      dsimp only [cmpP] at h25
      have hx8 := (b[k]'(by omega)).toNat_lt
      have hel := enc_len q (b.take k)
      rw [List.length_take] at hel
      refine O_nil (T_sub [(0, _), (1, _), (7, _), (8, _), (9, _), (10, _), (25, _)] ⟨rfl, rfl, rfl, rfl, rfl, rfl, rfl, trivial⟩ ?_)
      refine T_condT rfl (T_skip ?_)
      refine T_seq (T_block (T_drawS [0, 1, 2, 3, 4, 5, 6, 7, 8, 9, 10, 11, 12, 13, 14, 15] hs (by kernel_rfl) ?_))
      replace hs := hs.drew
      refine A_take 0 rfl (by kernel_rfl) rfl hs (Y_move rfl ?_)
      refine A_take 1 rfl (by kernel_rfl) rfl hs (Y_move rfl ?_)
      refine A_take 2 rfl (by kernel_rfl) rfl hs (Y_move rfl ?_)
      refine A_take 3 rfl (by kernel_rfl) rfl hs (Y_move rfl ?_)
      refine A_take 4 rfl (by kernel_rfl) rfl hs (Y_idxB hb k Tryd.underlying22 Tryd.sizeOf5 rfl rfl rfl (by omega) fun p32 hp32 => ?_)
      refine A_take 5 rfl (by kernel_rfl) rfl hs (Y_ldG Tryd.isAgg5 rfl (hp32) ?_)
      refine A_take 6 rfl (by kernel_rfl) rfl hs (Y_quoU (c := (((b[k]'(by omega)).toNat / 16 : Nat) : Int)) rfl rfl (by omega) (by decide) (by omega) ?_)
      refine A_take 7 rfl (by kernel_rfl) rfl hs (Y_idxStr (b := (hexS q).getD ((b[k]'(by omega)).toNat / 16) 0) ((b[k]'(by omega)).toNat / 16) Tryd.underlying9 rfl rfl rfl (by rw [hq]; first | exact strU _ (by omega) | exact strL _ (by omega)) ?_)
      refine A_take 8 rfl (by kernel_rfl) rfl hs (Y_move rfl ?_)
      refine A_take 9 rfl (by kernel_rfl) rfl hs (Y_move rfl ?_)
      refine A_take 10 rfl (by kernel_rfl) rfl hs (Y_move rfl ?_)
      refine A_take 11 rfl (by kernel_rfl) rfl hs (Y_idxB hb k Tryd.underlying22 Tryd.sizeOf5 rfl rfl rfl (by omega) fun p39 hp39 => ?_)
      refine A_take 12 rfl (by kernel_rfl) rfl hs (Y_ldG Tryd.isAgg5 rfl (hp39) ?_)
      refine A_take 13 rfl (by kernel_rfl) rfl hs (Y_rem (c := (((b[k]'(by omega)).toNat % 16 : Nat) : Int)) rfl rfl (by omega) (by decide) (by omega) ?_)
      refine A_take 14 rfl (by kernel_rfl) rfl hs (Y_idxStr (b := (hexS q).getD ((b[k]'(by omega)).toNat % 16) 0) ((b[k]'(by omega)).toNat % 16) Tryd.underlying9 rfl rfl rfl (by rw [hq]; first | exact strU _ (by omega) | exact strL _ (by omega)) ?_)
      have hle := hs.le
      refine A_only 15 rfl (by kernel_rfl) rfl (S_lit hs Tryd.underlying22 Tryd.sizeOf5 Tryd.zeroValue5 rfl rfl (by decide) (by decide) rfl (cs := [_, _, _]) rfl rfl fun v3 _ hs _ => ?_)
      obtain ⟨_, hG43, hl43, hs⟩ := hs.fixRow noM
      replace hb := hb.mono hG43
      replace hc := hc.mono hG43
      replace hT := hT.mono hG43
      replace hm := hm.mono hG43
      refine A_moreS hs hle hG43 (List.Sublist.refl _) ?_
      refine A_tail 16 rfl (by kernel_rfl) (by kernel_rfl) rfl (S_append hs Tryd.underlying22 TI5 rfl (by decide) rfl rfl (hl43) (three1 rfl rfl rfl) (by omega) (by omega) fun v4 _ hs => ?_)
      refine A_tail 17 rfl (by kernel_rfl) (by kernel_rfl) rfl (S_y hs rfl (Y_assign rfl ?_))
      refine A_done (by kernel_rfl) (T_sub [(0, _), (1, _), (7, _), (8, _), (9, _), (10, _)] ⟨rfl, rfl, rfl, rfl, rfl, rfl, trivial⟩ ?_)
      refine T_region rfl ?_
      refine O_y hs (Y_move rfl ?_)
      refine O_y hs (Y_add (c := ((k + 1 : Nat) : Int)) rfl rfl (by omega) (by omega) ?_)
      refine O_y hs (Y_assign rfl ?_)
      refine O_nil ⟨_, ?_, [(0, _), (1, _), (7, _), (8, _), (9, _), (10, _)], ⟨rfl, rfl, rfl, rfl, rfl, rfl, trivial⟩, ⟨k + 1, _, _, by omega, rfl, rfl, by rw [enc_snoc q b k (by omega), List.length_append, List.map_append]; exact hs⟩⟩
      omega
    · -- h25: False
      dsimp only [cmpP] at h25
      refine O_nil (T_sub [(0, _), (1, _), (7, _), (8, _), (9, _), (10, _), (25, _)] ⟨rfl, rfl, rfl, rfl, rfl, rfl, rfl, trivial⟩ ?_)
      refine T_condF rfl (T_exit ?_)
      obtain rfl : k = b.length := by omega
      rw [List.take_length] at hs
      obtain ⟨_, hGz, hco, hsz⟩ := hs.fixRow noM
      clear hs
      replace hb := hb.mono hGz
      replace hc := hc.mono hGz
      replace hT := hT.mono hGz
      replace hm := hm.mono hGz
      replace hco : Bytes _ _ (encF q b) := hco
      obtain ⟨A9, c9, rfl, _⟩ := id hco
      have hs := hsz
      have hel := enc_len q b
      refine T_seq (T_region rfl ?_)
      refine O_y hs (Y_build Tryd.zeroValue25 rfl PL25 rfl (cs := [_, _, _]) rfl ?_)
      refine O_y hs (Y_move rfl ?_)
      refine O_s (S_call (H1 := []) hs rfl Tryd.func7 rfl (by kernel_rfl) (do_eq (o := ⟨3, [], []⟩) (some (b)) (by rw [do3, enc_dec]) ⟨_, _, rfl, Sl.nil _ _, Sl.nil _ _⟩ hco (by omega) hm) fun v5 G' H' _ hR hG48 hs => ?_)
      obtain ⟨rfl, u48, rfl, hx⟩ := hR
      replace hs : St _ _ [] _ := hs
      replace hb := hb.mono hG48
      replace hc := hc.mono hG48
      replace hT := hT.mono hG48
      replace hm := hm.mono hG48
      replace hco := hco.mono hG48
      replace hx : Bytes _ _ (b) := hx
      obtain ⟨A48, c48, rfl, _⟩ := id hx
      refine O_y hs (Y_move rfl ?_)
      refine O_y hs (Y_extract rfl rfl ?_)
      refine O_y hs (Y_extract rfl rfl ?_)
      refine O_y hs (Y_assign rfl ?_)
      refine O_y hs (Y_assign rfl ?_)
      refine O_nil (T_sub [(0, _), (1, _), (7, _), (9, _), (11, _), (12, _)] ⟨rfl, rfl, rfl, rfl, rfl, rfl, trivial⟩ ?_)
      refine T_seq (T_region rfl ?_)
      refine O_y hs (Y_build Tryd.zeroValue25 rfl PL25 rfl (cs := [_, _, _]) rfl ?_)
      refine O_y hs (Y_move rfl ?_)
      refine O_s (S_call (H1 := []) hs rfl Tryd.func7 rfl (by kernel_rfl) (do_eq (o := ⟨4, [], []⟩) (some (b)) (by rw [do4, enc_dec]) ⟨_, _, rfl, Sl.nil _ _, Sl.nil _ _⟩ hco (by omega) hm) fun v6 G' H' _ hR hG54 hs => ?_)
      obtain ⟨rfl, u54, rfl, hy⟩ := hR
      replace hs : St _ _ [] _ := hs
      replace hb := hb.mono hG54
      replace hc := hc.mono hG54
      replace hT := hT.mono hG54
      replace hm := hm.mono hG54
      replace hco := hco.mono hG54
      replace hx := hx.mono hG54
      replace hy : Bytes _ _ (b) := hy
      obtain ⟨A54, c54, rfl, _⟩ := id hy
      refine O_y hs (Y_move rfl ?_)
      refine O_y hs (Y_extract rfl rfl ?_)
      refine O_y hs (Y_extract rfl rfl ?_)
      refine O_y hs (Y_assign rfl ?_)
      refine O_y hs (Y_assign rfl ?_)
      refine O_nil (T_sub [(0, _), (1, _), (7, _), (11, _), (12, _), (13, _), (14, _)] ⟨rfl, rfl, rfl, rfl, rfl, rfl, rfl, trivial⟩ ?_)
      refine T_seq (T_region rfl ?_)
      refine O_y hs (Y_build Tryd.zeroValue25 rfl PL25 rfl (cs := [_, _, _]) rfl ?_)
      refine O_y hs (Y_move rfl ?_)
      refine O_s (S_call (H1 := []) hs rfl Tryd.func7 rfl (by kernel_rfl) (do_eq (o := ⟨3, [], []⟩) (some (z)) (by rw [do3, hz]) ⟨_, _, rfl, Sl.nil _ _, Sl.nil _ _⟩ hc (by omega) hm) fun v7 G' H' _ hR hG60 hs => ?_)
      obtain ⟨rfl, u60, rfl, hzz⟩ := hR
      replace hs : St _ _ [] _ := hs
      replace hb := hb.mono hG60
      replace hc := hc.mono hG60
      replace hT := hT.mono hG60
      replace hm := hm.mono hG60
      replace hco := hco.mono hG60
      replace hx := hx.mono hG60
      replace hy := hy.mono hG60
      replace hzz : Bytes _ _ (z) := hzz
      obtain ⟨A60, c60, rfl, _⟩ := id hzz
      refine O_y hs (Y_move rfl ?_)
      refine O_y hs (Y_extract rfl rfl ?_)
      refine O_y hs (Y_extract rfl rfl ?_)
      refine O_y hs (Y_assign rfl ?_)
      refine O_y hs (Y_assign rfl ?_)
      refine O_nil (T_sub [(0, _), (1, _), (7, _), (11, _), (12, _), (13, _), (14, _), (15, _), (16, _)] ⟨rfl, rfl, rfl, rfl, rfl, rfl, rfl, rfl, rfl, trivial⟩ ?_)
      refine T_seq (T_region rfl ?_)
      refine O_y hs (Y_build Tryd.zeroValue25 rfl PL25 rfl (cs := [_, _, _]) rfl ?_)
      refine O_y hs (Y_move rfl ?_)
      refine O_s (S_call (H1 := []) hs rfl Tryd.func7 rfl (by kernel_rfl) (do_eq (o := ⟨4, [], []⟩) (some (z)) (by rw [do4, hw]) ⟨_, _, rfl, Sl.nil _ _, Sl.nil _ _⟩ hc (by omega) hm) fun v8 G' H' _ hR hG66 hs => ?_)
      obtain ⟨rfl, u66, rfl, hww⟩ := hR
      replace hs : St _ _ [] _ := hs
      replace hb := hb.mono hG66
      replace hc := hc.mono hG66
      replace hT := hT.mono hG66
      replace hm := hm.mono hG66
      replace hco := hco.mono hG66
      replace hx := hx.mono hG66
      replace hy := hy.mono hG66
      replace hzz := hzz.mono hG66
      replace hww : Bytes _ _ (z) := hww
      obtain ⟨A66, c66, rfl, _⟩ := id hww
      refine O_y hs (Y_move rfl ?_)
      refine O_y hs (Y_extract rfl rfl ?_)
      refine O_y hs (Y_extract rfl rfl ?_)
      refine O_y hs (Y_assign rfl ?_)
      refine O_y hs (Y_assign rfl ?_)
      refine O_nil (T_sub [(0, _), (1, _), (7, _), (11, _), (12, _), (13, _), (14, _), (15, _), (16, _), (17, _), (18, _)] ⟨rfl, rfl, rfl, rfl, rfl, rfl, rfl, rfl, rfl, rfl, rfl, trivial⟩ ?_)
      refine T_seq (T_region rfl ?_)
      refine O_y hs (Y_move rfl ?_)
      refine O_y hs (Y_move rfl ?_)
      refine O_yy 70 hs rfl rfl (Y_move rfl ?_)
      refine O_y hs (Y_pickT rfl rfl ?_)
      refine O_y hs (Y_move rfl ?_)
      refine O_yy 73 hs rfl rfl (Y_move rfl ?_)
      refine O_y hs (Y_pickT rfl rfl ?_)
      refine O_y hs (Y_move rfl ?_)
      refine O_yy 76 hs rfl rfl (Y_move rfl ?_)
      refine O_y hs (Y_pickT rfl rfl ?_)
      refine O_y hs (Y_move rfl ?_)
      refine O_yy 79 hs rfl rfl (Y_move rfl ?_)
      refine O_yy 79 hs rfl rfl (Y_move rfl ?_)
      refine O_yes 79 rfl rfl (S_call (H1 := []) hs rfl Tryd.func8 rfl (by kernel_rfl) (same_ok hx hb) fun v9 G' H' _ hR hG82 hs => ?_)
      obtain ⟨rfl, rfl⟩ := hR
      replace hs : St _ _ [] _ := hs
      replace hb := hb.mono hG82
      replace hc := hc.mono hG82
      replace hT := hT.mono hG82
      replace hm := hm.mono hG82
      replace hco := hco.mono hG82
      replace hx := hx.mono hG82
      replace hy := hy.mono hG82
      replace hzz := hzz.mono hG82
      replace hww := hww.mono hG82
      rw [decide_eq_true (show _ = _ from rfl)]
      refine O_y hs (Y_pickT rfl rfl ?_)
      refine O_y hs (Y_move rfl ?_)
      refine O_yy 84 hs rfl rfl (Y_move rfl ?_)
      refine O_yy 84 hs rfl rfl (Y_move rfl ?_)
      refine O_yes 84 rfl rfl (S_call (H1 := []) hs rfl Tryd.func8 rfl (by kernel_rfl) (same_ok hy hb) fun v10 G' H' _ hR hG87 hs => ?_)
      obtain ⟨rfl, rfl⟩ := hR
      replace hs : St _ _ [] _ := hs
      replace hb := hb.mono hG87
      replace hc := hc.mono hG87
      replace hT := hT.mono hG87
      replace hm := hm.mono hG87
      replace hco := hco.mono hG87
      replace hx := hx.mono hG87
      replace hy := hy.mono hG87
      replace hzz := hzz.mono hG87
      replace hww := hww.mono hG87
      rw [decide_eq_true (show _ = _ from rfl)]
      refine O_y hs (Y_pickT rfl rfl ?_)
      refine O_y hs (Y_move rfl ?_)
      refine O_yy 89 hs rfl rfl (Y_move rfl ?_)
      refine O_yy 89 hs rfl rfl (Y_not rfl ?_)
      refine O_yy 89 hs rfl rfl (Y_move rfl ?_)
      refine O_yy 92 hs rfl rfl (Y_move rfl ?_)
      refine O_yy 92 hs rfl rfl (Y_move rfl ?_)
      refine O_yes 92 rfl rfl (S_call (H1 := []) hs rfl Tryd.func8 rfl (by kernel_rfl) (same_ok hzz hww) fun v11 G' H' _ hR hG95 hs => ?_)
      obtain ⟨rfl, rfl⟩ := hR
      replace hs : St _ _ [] _ := hs
      replace hb := hb.mono hG95
      replace hc := hc.mono hG95
      replace hT := hT.mono hG95
      replace hm := hm.mono hG95
      replace hco := hco.mono hG95
      replace hx := hx.mono hG95
      replace hy := hy.mono hG95
      replace hzz := hzz.mono hG95
      replace hww := hww.mono hG95
      rw [decide_eq_true (show _ = _ from rfl)]
      refine O_yy 89 hs rfl rfl (Y_pickF rfl rfl ?_)
      refine O_y hs (Y_pickT rfl rfl ?_)
      refine O_y hs (Y_move rfl ?_)
      refine O_yy 98 hs rfl rfl (Y_move rfl ?_)
      refine O_yy 98 hs rfl rfl (Y_len Tryd.underlying22 rfl ?_)
      refine O_yy 98 hs rfl rfl (Y_move rfl ?_)
      refine O_yy 98 hs rfl rfl (Y_len Tryd.underlying22 rfl ?_)
      refine O_yy 98 hs rfl rfl (Y_cmpT rfl rfl rfl (by have := percF_len c 0 _ hw; simp only [cmpP]; omega) ?_)
      refine O_y hs (Y_pickT rfl rfl ?_)
      refine O_y hs (Y_assign rfl ?_)
      refine O_nil (T_sub [(6, _)] ⟨rfl, trivial⟩ ?_)
      refine T_ret ?_
      refine Rt_fin (vs := [_]) Tryd.results4 rfl ⟨rfl, trivial⟩ ?_
      try dsimp only [tup]
      exact ⟨_, [], hs.done, rfl, rfl⟩
  · -- False
    refine T_skip ?_
    refine T_seq (T_region rfl ?_)
    refine O_s (S_lit hs Tryd.underlying22 Tryd.sizeOf5 Tryd.zeroValue5 rfl rfl (by decide) (by decide) rfl (cs := []) rfl rfl fun v12 _ hs _ => ?_)
    refine O_y hs (Y_assign rfl ?_)
    refine O_nil (T_sub [(0, _), (1, _), (7, _), (8, _), (9, _)] ⟨rfl, rfl, rfl, rfl, rfl, trivial⟩ ?_)
    refine T_seq (T_seq (T_region rfl ?_))
    refine O_y hs (Y_assign rfl ?_)
    refine O_nil (T_sub [(0, _), (1, _), (7, _), (8, _), (9, _), (10, _)] ⟨rfl, rfl, rfl, rfl, rfl, rfl, trivial⟩ ?_)
    refine T_block (T_loop (fun m E w => ∃ (k : Nat) (v9 : Value) (G' : Ghost), k ≤ b.length ∧ m = b.length - k ∧ E = ⟨[], [(0, (.slice A b.length cap)), (1, (.slice Ac c.length capc)), (7, .bool true), (8, .string ⟨#[48, 49, 50, 51, 52, 53, 54, 55, 56, 57, 97, 98, 99, 100, 101, 102]⟩), (9, v9), (10, .int .i64 (k : Int))]⟩ ∧ St ⟨w0, G, feet []⟩ G' [.row 5 1 v9 (encF q (b.take k)).length ((encF q (b.take k)).map byteV)] w) (L := [(0, _), (1, _), (7, _), (8, _), (9, _), (10, _)]) ⟨rfl, rfl, rfl, rfl, rfl, rfl, trivial⟩ (⟨0, _, _, by omega, rfl, rfl, hs⟩) fun m E w hI => ?_)
    obtain ⟨k, v9, G', hk, rfl, rfl, hs⟩ := hI
    have hb := hb0.mono hs.le
    have hc := hc0.mono hs.le
    have hT := hT0.mono hs.le
    have hm := hm0.mono hs.le
    refine T_seq (T_seq (T_region rfl ?_))
    refine O_y hs (Y_move rfl ?_)
    refine O_y hs (Y_move rfl ?_)
    refine O_y hs (Y_len Tryd.underlying22 rfl ?_)
    refine O_y hs (Y_cmpS rfl rfl rfl (fun h25 => ?_) (fun h25 => ?_))
    · -- h25: True
      dsimp only [cmpP] at h25
      have hx8 := (b[k]'(by omega)).toNat_lt
      have hel := enc_len q (b.take k)
      rw [List.length_take] at hel
      refine O_nil (T_sub [(0, _), (1, _), (7, _), (8, _), (9, _), (10, _), (25, _)] ⟨rfl, rfl, rfl, rfl, rfl, rfl, rfl, trivial⟩ ?_)
      refine T_condT rfl (T_skip ?_)
      refine T_seq (T_block (T_drawS [0, 1, 2, 3, 4, 5, 6, 7, 8, 9, 10, 11, 12, 13, 14, 15] hs (by kernel_rfl) ?_))
      replace hs := hs.drew
      refine A_take 0 rfl (by kernel_rfl) rfl hs (Y_move rfl ?_)
      refine A_take 1 rfl (by kernel_rfl) rfl hs (Y_move rfl ?_)
      refine A_take 2 rfl (by kernel_rfl) rfl hs (Y_move rfl ?_)
      refine A_take 3 rfl (by kernel_rfl) rfl hs (Y_move rfl ?_)
      refine A_take 4 rfl (by kernel_rfl) rfl hs (Y_idxB hb k Tryd.underlying22 Tryd.sizeOf5 rfl rfl rfl (by omega) fun p32 hp32 => ?_)
      refine A_take 5 rfl (by kernel_rfl) rfl hs (Y_ldG Tryd.isAgg5 rfl (hp32) ?_)
      refine A_take 6 rfl (by kernel_rfl) rfl hs (Y_quoU (c := (((b[k]'(by omega)).toNat / 16 : Nat) : Int)) rfl rfl (by omega) (by decide) (by omega) ?_)
      refine A_take 7 rfl (by kernel_rfl) rfl hs (Y_idxStr (b := (hexS q).getD ((b[k]'(by omega)).toNat / 16) 0) ((b[k]'(by omega)).toNat / 16) Tryd.underlying9 rfl rfl rfl (by rw [hq]; first | exact strU _ (by omega) | exact strL _ (by omega)) ?_)
      refine A_take 8 rfl (by kernel_rfl) rfl hs (Y_move rfl ?_)
      refine A_take 9 rfl (by kernel_rfl) rfl hs (Y_move rfl ?_)
      refine A_take 10 rfl (by kernel_rfl) rfl hs (Y_move rfl ?_)
      refine A_take 11 rfl (by kernel_rfl) rfl hs (Y_idxB hb k Tryd.underlying22 Tryd.sizeOf5 rfl rfl rfl (by omega) fun p39 hp39 => ?_)
      refine A_take 12 rfl (by kernel_rfl) rfl hs (Y_ldG Tryd.isAgg5 rfl (hp39) ?_)
      refine A_take 13 rfl (by kernel_rfl) rfl hs (Y_rem (c := (((b[k]'(by omega)).toNat % 16 : Nat) : Int)) rfl rfl (by omega) (by decide) (by omega) ?_)
      refine A_take 14 rfl (by kernel_rfl) rfl hs (Y_idxStr (b := (hexS q).getD ((b[k]'(by omega)).toNat % 16) 0) ((b[k]'(by omega)).toNat % 16) Tryd.underlying9 rfl rfl rfl (by rw [hq]; first | exact strU _ (by omega) | exact strL _ (by omega)) ?_)
      have hle := hs.le
      refine A_only 15 rfl (by kernel_rfl) rfl (S_lit hs Tryd.underlying22 Tryd.sizeOf5 Tryd.zeroValue5 rfl rfl (by decide) (by decide) rfl (cs := [_, _, _]) rfl rfl fun v13 _ hs _ => ?_)
      obtain ⟨_, hG43, hl43, hs⟩ := hs.fixRow noM
      replace hb := hb.mono hG43
      replace hc := hc.mono hG43
      replace hT := hT.mono hG43
      replace hm := hm.mono hG43
      refine A_moreS hs hle hG43 (List.Sublist.refl _) ?_
      refine A_tail 16 rfl (by kernel_rfl) (by kernel_rfl) rfl (S_append hs Tryd.underlying22 TI5 rfl (by decide) rfl rfl (hl43) (three1 rfl rfl rfl) (by omega) (by omega) fun v14 _ hs => ?_)
      refine A_tail 17 rfl (by kernel_rfl) (by kernel_rfl) rfl (S_y hs rfl (Y_assign rfl ?_))
      refine A_done (by kernel_rfl) (T_sub [(0, _), (1, _), (7, _), (8, _), (9, _), (10, _)] ⟨rfl, rfl, rfl, rfl, rfl, rfl, trivial⟩ ?_)
      refine T_region rfl ?_
      refine O_y hs (Y_move rfl ?_)
      refine O_y hs (Y_add (c := ((k + 1 : Nat) : Int)) rfl rfl (by omega) (by omega) ?_)
      refine O_y hs (Y_assign rfl ?_)
      refine O_nil ⟨_, ?_, [(0, _), (1, _), (7, _), (8, _), (9, _), (10, _)], ⟨rfl, rfl, rfl, rfl, rfl, rfl, trivial⟩, ⟨k + 1, _, _, by omega, rfl, rfl, by rw [enc_snoc q b k (by omega), List.length_append, List.map_append]; exact hs⟩⟩
      omega
    · -- h25: False
      dsimp only [cmpP] at h25
      refine O_nil (T_sub [(0, _), (1, _), (7, _), (8, _), (9, _), (10, _), (25, _)] ⟨rfl, rfl, rfl, rfl, rfl, rfl, rfl, trivial⟩ ?_)
      refine T_condF rfl (T_exit ?_)
      obtain rfl : k = b.length := by omega
      rw [List.take_length] at hs
      obtain ⟨_, hGz, hco, hsz⟩ := hs.fixRow noM
      clear hs
      replace hb := hb.mono hGz
      replace hc := hc.mono hGz
      replace hT := hT.mono hGz
      replace hm := hm.mono hGz
      replace hco : Bytes _ _ (encF q b) := hco
      obtain ⟨A9, c9, rfl, _⟩ := id hco
      have hs := hsz
      have hel := enc_len q b
      refine T_seq (T_region rfl ?_)
      refine O_y hs (Y_build Tryd.zeroValue25 rfl PL25 rfl (cs := [_, _, _]) rfl ?_)
      refine O_y hs (Y_move rfl ?_)
      refine O_s (S_call (H1 := []) hs rfl Tryd.func7 rfl (by kernel_rfl) (do_eq (o := ⟨3, [], []⟩) (some (b)) (by rw [do3, enc_dec]) ⟨_, _, rfl, Sl.nil _ _, Sl.nil _ _⟩ hco (by omega) hm) fun v15 G' H' _ hR hG48 hs => ?_)
      obtain ⟨rfl, u48, rfl, hx⟩ := hR
      replace hs : St _ _ [] _ := hs
      replace hb := hb.mono hG48
      replace hc := hc.mono hG48
      replace hT := hT.mono hG48
      replace hm := hm.mono hG48
      replace hco := hco.mono hG48
      replace hx : Bytes _ _ (b) := hx
      obtain ⟨A48, c48, rfl, _⟩ := id hx
      refine O_y hs (Y_move rfl ?_)
      refine O_y hs (Y_extract rfl rfl ?_)
      refine O_y hs (Y_extract rfl rfl ?_)
      refine O_y hs (Y_assign rfl ?_)
      refine O_y hs (Y_assign rfl ?_)
      refine O_nil (T_sub [(0, _), (1, _), (7, _), (9, _), (11, _), (12, _)] ⟨rfl, rfl, rfl, rfl, rfl, rfl, trivial⟩ ?_)
      refine T_seq (T_region rfl ?_)
      refine O_y hs (Y_build Tryd.zeroValue25 rfl PL25 rfl (cs := [_, _, _]) rfl ?_)
      refine O_y hs (Y_move rfl ?_)
      refine O_s (S_call (H1 := []) hs rfl Tryd.func7 rfl (by kernel_rfl) (do_eq (o := ⟨4, [], []⟩) (some (b)) (by rw [do4, enc_dec]) ⟨_, _, rfl, Sl.nil _ _, Sl.nil _ _⟩ hco (by omega) hm) fun v16 G' H' _ hR hG54 hs => ?_)
      obtain ⟨rfl, u54, rfl, hy⟩ := hR
      replace hs : St _ _ [] _ := hs
      replace hb := hb.mono hG54
      replace hc := hc.mono hG54
      replace hT := hT.mono hG54
      replace hm := hm.mono hG54
      replace hco := hco.mono hG54
      replace hx := hx.mono hG54
      replace hy : Bytes _ _ (b) := hy
      obtain ⟨A54, c54, rfl, _⟩ := id hy
      refine O_y hs (Y_move rfl ?_)
      refine O_y hs (Y_extract rfl rfl ?_)
      refine O_y hs (Y_extract rfl rfl ?_)
      refine O_y hs (Y_assign rfl ?_)
      refine O_y hs (Y_assign rfl ?_)
      refine O_nil (T_sub [(0, _), (1, _), (7, _), (11, _), (12, _), (13, _), (14, _)] ⟨rfl, rfl, rfl, rfl, rfl, rfl, rfl, trivial⟩ ?_)
      refine T_seq (T_region rfl ?_)
      refine O_y hs (Y_build Tryd.zeroValue25 rfl PL25 rfl (cs := [_, _, _]) rfl ?_)
      refine O_y hs (Y_move rfl ?_)
      refine O_s (S_call (H1 := []) hs rfl Tryd.func7 rfl (by kernel_rfl) (do_eq (o := ⟨3, [], []⟩) (some (z)) (by rw [do3, hz]) ⟨_, _, rfl, Sl.nil _ _, Sl.nil _ _⟩ hc (by omega) hm) fun v17 G' H' _ hR hG60 hs => ?_)
      obtain ⟨rfl, u60, rfl, hzz⟩ := hR
      replace hs : St _ _ [] _ := hs
      replace hb := hb.mono hG60
      replace hc := hc.mono hG60
      replace hT := hT.mono hG60
      replace hm := hm.mono hG60
      replace hco := hco.mono hG60
      replace hx := hx.mono hG60
      replace hy := hy.mono hG60
      replace hzz : Bytes _ _ (z) := hzz
      obtain ⟨A60, c60, rfl, _⟩ := id hzz
      refine O_y hs (Y_move rfl ?_)
      refine O_y hs (Y_extract rfl rfl ?_)
      refine O_y hs (Y_extract rfl rfl ?_)
      refine O_y hs (Y_assign rfl ?_)
      refine O_y hs (Y_assign rfl ?_)
      refine O_nil (T_sub [(0, _), (1, _), (7, _), (11, _), (12, _), (13, _), (14, _), (15, _), (16, _)] ⟨rfl, rfl, rfl, rfl, rfl, rfl, rfl, rfl, rfl, trivial⟩ ?_)
      refine T_seq (T_region rfl ?_)
      refine O_y hs (Y_build Tryd.zeroValue25 rfl PL25 rfl (cs := [_, _, _]) rfl ?_)
      refine O_y hs (Y_move rfl ?_)
      refine O_s (S_call (H1 := []) hs rfl Tryd.func7 rfl (by kernel_rfl) (do_eq (o := ⟨4, [], []⟩) (some (z)) (by rw [do4, hw]) ⟨_, _, rfl, Sl.nil _ _, Sl.nil _ _⟩ hc (by omega) hm) fun v18 G' H' _ hR hG66 hs => ?_)
      obtain ⟨rfl, u66, rfl, hww⟩ := hR
      replace hs : St _ _ [] _ := hs
      replace hb := hb.mono hG66
      replace hc := hc.mono hG66
      replace hT := hT.mono hG66
      replace hm := hm.mono hG66
      replace hco := hco.mono hG66
      replace hx := hx.mono hG66
      replace hy := hy.mono hG66
      replace hzz := hzz.mono hG66
      replace hww : Bytes _ _ (z) := hww
      obtain ⟨A66, c66, rfl, _⟩ := id hww
      refine O_y hs (Y_move rfl ?_)
      refine O_y hs (Y_extract rfl rfl ?_)
      refine O_y hs (Y_extract rfl rfl ?_)
      refine O_y hs (Y_assign rfl ?_)
      refine O_y hs (Y_assign rfl ?_)
      refine O_nil (T_sub [(0, _), (1, _), (7, _), (11, _), (12, _), (13, _), (14, _), (15, _), (16, _), (17, _), (18, _)] ⟨rfl, rfl, rfl, rfl, rfl, rfl, rfl, rfl, rfl, rfl, rfl, trivial⟩ ?_)
      refine T_seq (T_region rfl ?_)
      refine O_y hs (Y_move rfl ?_)
      refine O_y hs (Y_move rfl ?_)
      refine O_yy 70 hs rfl rfl (Y_move rfl ?_)
      refine O_y hs (Y_pickT rfl rfl ?_)
      refine O_y hs (Y_move rfl ?_)
      refine O_yy 73 hs rfl rfl (Y_move rfl ?_)
      refine O_y hs (Y_pickT rfl rfl ?_)
      refine O_y hs (Y_move rfl ?_)
      refine O_yy 76 hs rfl rfl (Y_move rfl ?_)
      refine O_y hs (Y_pickT rfl rfl ?_)
      refine O_y hs (Y_move rfl ?_)
      refine O_yy 79 hs rfl rfl (Y_move rfl ?_)
      refine O_yy 79 hs rfl rfl (Y_move rfl ?_)
      refine O_yes 79 rfl rfl (S_call (H1 := []) hs rfl Tryd.func8 rfl (by kernel_rfl) (same_ok hx hb) fun v19 G' H' _ hR hG82 hs => ?_)
      obtain ⟨rfl, rfl⟩ := hR
      replace hs : St _ _ [] _ := hs
      replace hb := hb.mono hG82
      replace hc := hc.mono hG82
      replace hT := hT.mono hG82
      replace hm := hm.mono hG82
      replace hco := hco.mono hG82
      replace hx := hx.mono hG82
      replace hy := hy.mono hG82
      replace hzz := hzz.mono hG82
      replace hww := hww.mono hG82
      rw [decide_eq_true (show _ = _ from rfl)]
      refine O_y hs (Y_pickT rfl rfl ?_)
      refine O_y hs (Y_move rfl ?_)
      refine O_yy 84 hs rfl rfl (Y_move rfl ?_)
      refine O_yy 84 hs rfl rfl (Y_move rfl ?_)
      refine O_yes 84 rfl rfl (S_call (H1 := []) hs rfl Tryd.func8 rfl (by kernel_rfl) (same_ok hy hb) fun v20 G' H' _ hR hG87 hs => ?_)
      obtain ⟨rfl, rfl⟩ := hR
      replace hs : St _ _ [] _ := hs
      replace hb := hb.mono hG87
      replace hc := hc.mono hG87
      replace hT := hT.mono hG87
      replace hm := hm.mono hG87
      replace hco := hco.mono hG87
      replace hx := hx.mono hG87
      replace hy := hy.mono hG87
      replace hzz := hzz.mono hG87
      replace hww := hww.mono hG87
      rw [decide_eq_true (show _ = _ from rfl)]
      refine O_y hs (Y_pickT rfl rfl ?_)
      refine O_y hs (Y_move rfl ?_)
      refine O_yy 89 hs rfl rfl (Y_move rfl ?_)
      refine O_yy 89 hs rfl rfl (Y_not rfl ?_)
      refine O_yy 89 hs rfl rfl (Y_move rfl ?_)
      refine O_yy 92 hs rfl rfl (Y_move rfl ?_)
      refine O_yy 92 hs rfl rfl (Y_move rfl ?_)
      refine O_yes 92 rfl rfl (S_call (H1 := []) hs rfl Tryd.func8 rfl (by kernel_rfl) (same_ok hzz hww) fun v21 G' H' _ hR hG95 hs => ?_)
      obtain ⟨rfl, rfl⟩ := hR
      replace hs : St _ _ [] _ := hs
      replace hb := hb.mono hG95
      replace hc := hc.mono hG95
      replace hT := hT.mono hG95
      replace hm := hm.mono hG95
      replace hco := hco.mono hG95
      replace hx := hx.mono hG95
      replace hy := hy.mono hG95
      replace hzz := hzz.mono hG95
      replace hww := hww.mono hG95
      rw [decide_eq_true (show _ = _ from rfl)]
      refine O_yy 89 hs rfl rfl (Y_pickF rfl rfl ?_)
      refine O_y hs (Y_pickT rfl rfl ?_)
      refine O_y hs (Y_move rfl ?_)
      refine O_yy 98 hs rfl rfl (Y_move rfl ?_)
      refine O_yy 98 hs rfl rfl (Y_len Tryd.underlying22 rfl ?_)
      refine O_yy 98 hs rfl rfl (Y_move rfl ?_)
      refine O_yy 98 hs rfl rfl (Y_len Tryd.underlying22 rfl ?_)
      refine O_yy 98 hs rfl rfl (Y_cmpT rfl rfl rfl (by have := percF_len c 0 _ hw; simp only [cmpP]; omega) ?_)
      refine O_y hs (Y_pickT rfl rfl ?_)
      refine O_y hs (Y_assign rfl ?_)
      refine O_nil (T_sub [(6, _)] ⟨rfl, trivial⟩ ?_)
      refine T_ret ?_
      refine Rt_fin (vs := [_]) Tryd.results4 rfl ⟨rfl, trivial⟩ ?_
      try dsimp only [tup]
      exact ⟨_, [], hs.done, rfl, rfl⟩

theorem law4 {G : Ghost} {v v2 : Value} {b c : List UInt8} (hb : Bytes G v b) (hl : b.length ≤ 10000000) (hc : Bytes G v2 c) (hlc : c.length ≤ 10000000) {q : Bool} (hT : Tab G) (hm : MaxL G) :
    FnOk Tryd.prog 4 [v, v2, .bool q] G [] fun r _ H' => H' = [] ∧ r = .bool true := by
  rcases hz : percF false 0 c with _ | z
  · exact law4_n hb hl hc hlc hz hT hm
  · exact law4_s hb hl hc hlc hz hT hm


end Go.Proofs.YtffbfibpfnlfeaaDoor
