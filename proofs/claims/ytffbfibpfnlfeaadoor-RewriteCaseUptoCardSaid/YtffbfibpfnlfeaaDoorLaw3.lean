import Derived.Test.YtffbfibpfnlfeaaDoorExWalks4
import Derived.Test.YtffbfibpfnlfeaaDoorProg
import Derived.Test.YtffbfibpfnlfeaaDoorPlain
import Derived.Test.YtffbfibpfnlfeaaDoorShelf
namespace Go.Proofs.YtffbfibpfnlfeaaDoor
open Go Go.Ex Go.RowKit





set_option maxHeartbeats 1000000 in
set_option maxRecDepth 10000 in
theorem law3 {G : Ghost} {v : Value} {b : List UInt8} (hb : Bytes G v b) (hl : b.length ≤ 10000000) (hT : Tab G) (hm : MaxL G) :
    FnOk Tryd.prog 3 [v] G [] fun r _ H' => H' = [] ∧ r = .bool true := by
  obtain ⟨A, cap, rfl, _⟩ := id hb
  refine FnOk.of_T [(0, _)] Tryd.func3 rfl Tryd.ntmps3 (by simp) rfl fun w0 hs => ?_
  have hb0 := hb
  have hT0 := hT
  have hm0 := hm
  refine T_seq (T_region rfl ?_)
  refine O_y hs (Y_assign rfl ?_)
  refine O_nil (T_sub [(0, _)] ⟨rfl, trivial⟩ ?_)
  refine T_seq (T_region rfl ?_)
  refine O_s (S_call (H1 := []) hs rfl Tryd.func6 rfl (by kernel_rfl) (sanity_ok hT hm) fun v1 G' H' _ hR hG20 hs => ?_)
  obtain ⟨rfl, rfl⟩ := hR
  replace hs : St _ _ [] _ := hs
  replace hb := hb.mono hG20
  replace hT := hT.mono hG20
  replace hm := hm.mono hG20
  refine O_y hs (Y_assign rfl ?_)
  refine O_nil (T_sub [(0, _), (3, _)] ⟨rfl, rfl, trivial⟩ ?_)
  refine T_seq (T_region rfl ?_)
  refine O_y hs (Y_build Tryd.zeroValue25 rfl PL25 rfl (cs := [_, _, _]) rfl ?_)
  refine O_s (S_alloc hs Tryd.zeroValue25 (cs := [_, _, _]) rfl fun b4 _ hs => ?_)
  refine O_n (S_stA hs Tryd.sizeOf25 rfl rfl (vs := [_, _, _]) rfl (rfl) (by simp) (cs' := [_, _, _]) rfl fun _ hs => ?_)
  refine O_nil (T_sub [(0, _), (3, _), (4, _)] ⟨rfl, rfl, rfl, trivial⟩ ?_)
  refine T_seq (T_region rfl ?_)
  refine O_y hs (Y_build Tryd.zeroValue25 rfl PL25 rfl (cs := [_, _, _]) rfl ?_)
  refine O_s (S_alloc hs Tryd.zeroValue25 (cs := [_, _, _]) rfl fun b5 _ hs => ?_)
  refine O_n (S_stA hs Tryd.sizeOf25 rfl rfl (vs := [_, _, _]) rfl (rfl) (by simp) (cs' := [_, _, _]) rfl fun _ hs => ?_)
  refine O_nil (T_sub [(0, _), (3, _), (4, _), (5, _)] ⟨rfl, rfl, rfl, rfl, trivial⟩ ?_)
  refine T_seq (T_region rfl ?_)
  refine O_y hs (Y_ldA 1 Tryd.isAgg25 Tryd.sizeOf25 rfl rfl (vs := [_, _, _]) rfl rfl ?_)
  refine O_y hs (Y_move rfl ?_)
  refine O_s (S_call (H1 := []) hs rfl Tryd.func7 rfl (by kernel_rfl) (do_eq (o := ⟨1, [], []⟩) (some (b.map lowerF)) (do1 b) ⟨_, _, rfl, Sl.nil _ _, Sl.nil _ _⟩ hb (by omega) hm) fun v2 G' H' _ hR hG26 hs => ?_)
  obtain ⟨rfl, u26, rfl, hx⟩ := hR
  replace hs : St _ _ [_, _] _ := hs
  replace hb := hb.mono hG26
  replace hT := hT.mono hG26
  replace hm := hm.mono hG26
  replace hx : Bytes _ _ (b.map lowerF) := hx
  obtain ⟨A26, c26, rfl, _⟩ := id hx
  refine O_y hs (Y_move rfl ?_)
  refine O_y hs (Y_extract rfl rfl ?_)
  refine O_y hs (Y_extract rfl rfl ?_)
  refine O_y hs (Y_assign rfl ?_)
  refine O_y hs (Y_assign rfl ?_)
  refine O_nil (T_sub [(0, _), (3, _), (4, _), (5, _), (6, _), (7, _)] ⟨rfl, rfl, rfl, rfl, rfl, rfl, trivial⟩ ?_)
  refine T_seq (T_region rfl ?_)
  refine O_y hs (Y_ldA 0 Tryd.isAgg25 Tryd.sizeOf25 rfl rfl (vs := [_, _, _]) rfl rfl ?_)
  refine O_y hs (Y_move rfl ?_)
  refine O_s (S_call (H1 := []) hs rfl Tryd.func7 rfl (by kernel_rfl) (do_eq (o := ⟨2, [], []⟩) (some (b.map upperF)) (do2 b) ⟨_, _, rfl, Sl.nil _ _, Sl.nil _ _⟩ hb (by omega) hm) fun v3 G' H' _ hR hG32 hs => ?_)
  obtain ⟨rfl, u32, rfl, hy⟩ := hR
  replace hs : St _ _ [_, _] _ := hs
  replace hb := hb.mono hG32
  replace hT := hT.mono hG32
  replace hm := hm.mono hG32
  replace hx := hx.mono hG32
  replace hy : Bytes _ _ (b.map upperF) := hy
  obtain ⟨A32, c32, rfl, _⟩ := id hy
  refine O_y hs (Y_move rfl ?_)
  refine O_y hs (Y_extract rfl rfl ?_)
  refine O_y hs (Y_extract rfl rfl ?_)
  refine O_y hs (Y_assign rfl ?_)
  refine O_y hs (Y_assign rfl ?_)
  refine O_nil (T_sub [(0, _), (3, _), (4, _), (5, _), (6, _), (7, _), (8, _), (9, _)] ⟨rfl, rfl, rfl, rfl, rfl, rfl, rfl, rfl, trivial⟩ ?_)
  refine T_seq (T_seq (T_region rfl ?_))
  refine O_y hs (Y_move rfl ?_)
  refine O_y hs (Y_not rfl ?_)
  refine O_y hs (Y_move rfl ?_)
  refine O_yy 37 hs rfl rfl (Y_move rfl ?_)
  refine O_yy 37 hs rfl rfl (Y_not rfl ?_)
  refine O_y hs (Y_pickF rfl rfl ?_)
  refine O_y hs (Y_move rfl ?_)
  refine O_yy 41 hs rfl rfl (Y_move rfl ?_)
  refine O_yy 41 hs rfl rfl (Y_len Tryd.underlying22 rfl ?_)
  refine O_yy 41 hs rfl rfl (Y_move rfl ?_)
  refine O_yy 41 hs rfl rfl (Y_len Tryd.underlying22 rfl ?_)
  refine O_yy 41 hs rfl rfl (Y_cmpF rfl rfl rfl (by simp [cmpP]) ?_)
  refine O_y hs (Y_pickF rfl rfl ?_)
  refine O_y hs (Y_move rfl ?_)
  refine O_yy 48 hs rfl rfl (Y_move rfl ?_)
  refine O_yy 48 hs rfl rfl (Y_len Tryd.underlying22 rfl ?_)
  refine O_yy 48 hs rfl rfl (Y_move rfl ?_)
  refine O_yy 48 hs rfl rfl (Y_len Tryd.underlying22 rfl ?_)
  refine O_yy 48 hs rfl rfl (Y_cmpF rfl rfl rfl (by simp [cmpP]) ?_)
  refine O_y hs (Y_pickF rfl rfl ?_)
  refine O_nil (T_sub [(0, _), (3, _), (4, _), (5, _), (6, _), (8, _), (54, _)] ⟨rfl, rfl, rfl, rfl, rfl, rfl, rfl, trivial⟩ ?_)
  refine T_condF rfl (T_skip ?_)
  refine T_seq (T_seq (T_region rfl ?_))
  refine O_y hs (Y_assign rfl ?_)
  refine O_nil (T_sub [(0, _), (3, _), (4, _), (5, _), (6, _), (8, _), (10, _)] ⟨rfl, rfl, rfl, rfl, rfl, rfl, rfl, trivial⟩ ?_)
  refine T_block (T_loop (fun m E w => ∃ (k : Nat) (G' : Ghost), k ≤ b.length ∧ m = b.length - k ∧ Bytes G' (.slice A26 (b.map lowerF).length c26) (b.map lowerF) ∧ Bytes G' (.slice A32 (b.map upperF).length c32) (b.map upperF) ∧ E = ⟨[], [(0, (.slice A b.length cap)), (3, .bool true), (4, .pointer (some ⟨b4, 0, none⟩)), (5, .pointer (some ⟨b5, 0, none⟩)), (6, .slice A26 (b.map lowerF).length c26), (8, .slice A32 (b.map upperF).length c32), (10, .int .i64 (k : Int))]⟩ ∧ St ⟨w0, G, feet []⟩ G' [.blk b5 25 [.int .i64 2, .slice none 0 0, .slice none 0 0], .blk b4 25 [.int .i64 1, .slice none 0 0, .slice none 0 0]] w) (L := [(0, _), (3, _), (4, _), (5, _), (6, _), (8, _), (10, _)]) ⟨rfl, rfl, rfl, rfl, rfl, rfl, rfl, trivial⟩ (⟨0, _, by omega, rfl, hx, hy, rfl, hs⟩) fun m E w hI => ?_)
  obtain ⟨k, G', hk, rfl, hx, hy, rfl, hs⟩ := hI
  have hb := hb0.mono hs.le
  have hT := hT0.mono hs.le
  have hm := hm0.mono hs.le
  refine T_seq (T_seq (T_region rfl ?_))
  refine O_y hs (Y_move rfl ?_)
  refine O_y hs (Y_move rfl ?_)
  refine O_y hs (Y_len Tryd.underlying22 rfl ?_)
  refine O_y hs (Y_cmpS rfl rfl rfl (fun h58 => ?_) (fun h58 => ?_))
  · -- h58: True
    dsimp only [cmpP] at h58
    refine O_nil (T_sub [(0, _), (3, _), (4, _), (5, _), (6, _), (8, _), (10, _), (58, _)] ⟨rfl, rfl, rfl, rfl, rfl, rfl, rfl, rfl, trivial⟩ ?_)
    refine T_condT rfl (T_skip ?_)
    refine T_seq (T_block (T_seq (T_region rfl ?_)))
    refine O_y hs (Y_move rfl ?_)
    refine O_y hs (Y_move rfl ?_)
    refine O_y hs (Y_idxB hb k Tryd.underlying22 Tryd.sizeOf5 rfl rfl rfl (by omega) fun p63 hp63 => ?_)
    refine O_y hs (Y_ldG Tryd.isAgg5 rfl (hp63) ?_)
    refine O_y hs (Y_cmpS rfl rfl rfl (fun h65 => ?_) (fun h65 => ?_))
    · -- h65: True
      dsimp only [cmpP] at h65
      refine O_y hs (Y_move rfl ?_)
      refine O_yy 66 hs rfl rfl (Y_move rfl ?_)
      refine O_yy 66 hs rfl rfl (Y_move rfl ?_)
      refine O_yy 66 hs rfl rfl (Y_idxB hb k Tryd.underlying22 Tryd.sizeOf5 rfl rfl rfl (by omega) fun p69 hp69 => ?_)
      refine O_yy 66 hs rfl rfl (Y_ldG Tryd.isAgg5 rfl (hp69) ?_)
      refine O_yy 66 hs rfl rfl (Y_cmpS rfl rfl rfl (fun h71 => ?_) (fun h71 => ?_))
      · -- h71: True
        dsimp only [cmpP] at h71
        refine O_y hs (Y_pickT rfl rfl ?_)
        refine O_y hs (Y_move rfl ?_)
        refine O_no 73 rfl rfl ?_
        refine O_no 73 rfl rfl ?_
        refine O_no 73 rfl rfl ?_
        refine O_no 73 rfl rfl ?_
        refine O_no 73 rfl rfl ?_
        refine O_no 73 rfl rfl ?_
        refine O_noU 79 rfl rfl ?_
        refine O_noU 79 rfl rfl ?_
        refine O_noU 79 rfl rfl ?_
        refine O_noU 79 rfl rfl ?_
        refine O_noU 79 rfl rfl ?_
        refine O_no 73 rfl rfl ?_
        refine O_y hs (Y_pickT rfl rfl ?_)
        refine O_y hs (Y_assign rfl ?_)
        refine O_nil (T_sub [(0, _), (3, _), (4, _), (5, _), (6, _), (8, _), (10, _), (11, _)] ⟨rfl, rfl, rfl, rfl, rfl, rfl, rfl, rfl, trivial⟩ ?_)
        refine T_seq (T_drawS [0, 1, 2, 3, 4, 5, 6, 7, 8, 9, 10, 11, 12, 13, 14, 15, 16, 17, 18, 19, 20, 21, 22, 23, 24, 25, 26, 27, 28, 29, 30, 31, 32, 33, 34, 35, 36, 37, 38, 39, 40, 41, 42, 43, 44, 45, 46, 47, 48, 49, 50] hs (by kernel_rfl) ?_)
        replace hs := hs.drew
        refine A_take 0 rfl (by kernel_rfl) rfl hs (Y_move rfl ?_)
        refine A_take 1 rfl (by kernel_rfl) rfl hs (Y_not rfl ?_)
        refine A_take 2 rfl (by kernel_rfl) rfl hs (Y_move rfl ?_)
        refine A_skip 3 rfl (by kernel_rfl) rfl hs ?_
        refine A_skip 4 rfl (by kernel_rfl) rfl hs ?_
        refine A_skip 5 rfl (by kernel_rfl) rfl hs ?_
        refine A_skip 6 rfl (by kernel_rfl) rfl hs ?_
        refine A_skip 7 rfl (by kernel_rfl) rfl hs ?_
        refine A_skip 8 rfl (by kernel_rfl) rfl hs ?_
        refine A_skip 9 rfl (by kernel_rfl) rfl hs ?_
        refine A_skip 10 rfl (by kernel_rfl) rfl hs ?_
        refine A_skip 11 rfl (by kernel_rfl) rfl hs ?_
        refine A_skip 12 rfl (by kernel_rfl) rfl hs ?_
        refine A_skip 13 rfl (by kernel_rfl) rfl hs ?_
        refine A_skip 14 rfl (by kernel_rfl) rfl hs ?_
        refine A_skip 15 rfl (by kernel_rfl) rfl hs ?_
        refine A_skip 16 rfl (by kernel_rfl) rfl hs ?_
        refine A_skip 17 rfl (by kernel_rfl) rfl hs ?_
        refine A_skip 18 rfl (by kernel_rfl) rfl hs ?_
        refine A_skip 19 rfl (by kernel_rfl) rfl hs ?_
        refine A_skip 20 rfl (by kernel_rfl) rfl hs ?_
        refine A_skip 21 rfl (by kernel_rfl) rfl hs ?_
        refine A_skip 22 rfl (by kernel_rfl) rfl hs ?_
        refine A_take 23 rfl (by kernel_rfl) rfl hs (Y_pickF rfl rfl ?_)
        refine A_take 24 rfl (by kernel_rfl) rfl hs (Y_move rfl ?_)
        refine A_take 25 rfl (by kernel_rfl) rfl hs (Y_move rfl ?_)
        refine A_take 26 rfl (by kernel_rfl) rfl hs (Y_move rfl ?_)
        refine A_take 27 rfl (by kernel_rfl) rfl hs (Y_move rfl ?_)
        refine A_take 28 rfl (by kernel_rfl) rfl hs (Y_move rfl ?_)
        refine A_take 29 rfl (by kernel_rfl) rfl hs (Y_idxB hx k Tryd.underlying22 Tryd.sizeOf5 rfl rfl rfl (by rw [List.length_map]; omega) fun p116 hp116 => ?_)
        refine A_take 30 rfl (by kernel_rfl) rfl hs (Y_ldG Tryd.isAgg5 rfl (hp116) ?_)
        refine A_take 31 rfl (by kernel_rfl) rfl hs (Y_move rfl ?_)
        refine A_take 32 rfl (by kernel_rfl) rfl hs (Y_move rfl ?_)
        refine A_take 33 rfl (by kernel_rfl) rfl hs (Y_idxB hb k Tryd.underlying22 Tryd.sizeOf5 rfl rfl rfl (by omega) fun p120 hp120 => ?_)
        refine A_take 34 rfl (by kernel_rfl) rfl hs (Y_ldG Tryd.isAgg5 rfl (hp120) ?_)
        refine A_take 35 rfl (by kernel_rfl) rfl hs (Y_bits (c := ((lowerF (b[k]'(by omega))).toNat : Int)) rfl rfl (.inr (.inl rfl)) (low_bits _ (by omega)) ?_)
        refine A_take 36 rfl (by kernel_rfl) rfl hs (Y_cmpF rfl rfl rfl (by simp [cmpP]) ?_)
        refine A_take 37 rfl (by kernel_rfl) rfl hs (Y_move rfl ?_)
        refine A_take 38 rfl (by kernel_rfl) rfl hs (Y_move rfl ?_)
        refine A_take 39 rfl (by kernel_rfl) rfl hs (Y_move rfl ?_)
        refine A_take 40 rfl (by kernel_rfl) rfl hs (Y_idxB hy k Tryd.underlying22 Tryd.sizeOf5 rfl rfl rfl (by rw [List.length_map]; omega) fun p127 hp127 => ?_)
        refine A_take 41 rfl (by kernel_rfl) rfl hs (Y_ldG Tryd.isAgg5 rfl (hp127) ?_)
        refine A_take 42 rfl (by kernel_rfl) rfl hs (Y_move rfl ?_)
        refine A_take 43 rfl (by kernel_rfl) rfl hs (Y_move rfl ?_)
        refine A_take 44 rfl (by kernel_rfl) rfl hs (Y_idxB hb k Tryd.underlying22 Tryd.sizeOf5 rfl rfl rfl (by omega) fun p131 hp131 => ?_)
        refine A_take 45 rfl (by kernel_rfl) rfl hs (Y_ldG Tryd.isAgg5 rfl (hp131) ?_)
        refine A_take 46 rfl (by kernel_rfl) rfl hs (Y_bits (c := ((upperF (b[k]'(by omega))).toNat : Int)) rfl rfl (.inr (.inr (.inr rfl))) (up_bits _ (by omega)) ?_)
        refine A_take 47 rfl (by kernel_rfl) rfl hs (Y_cmpF rfl rfl rfl (by simp [cmpP]) ?_)
        refine A_take 48 rfl (by kernel_rfl) rfl hs (Y_pickF rfl rfl ?_)
        refine A_take 49 rfl (by kernel_rfl) rfl hs (Y_pickT rfl rfl ?_)
        refine A_take 50 rfl (by kernel_rfl) rfl hs (Y_pickF rfl rfl ?_)
        refine A_done (by kernel_rfl) (T_sub [(0, _), (3, _), (4, _), (5, _), (6, _), (8, _), (10, _), (137, _)] ⟨rfl, rfl, rfl, rfl, rfl, rfl, rfl, rfl, trivial⟩ ?_)
        refine T_condF rfl (T_skip ?_)
        refine T_region rfl ?_
        refine O_y hs (Y_move rfl ?_)
        refine O_y hs (Y_add (c := ((k + 1 : Nat) : Int)) rfl rfl (by omega) (by omega) ?_)
        refine O_y hs (Y_assign rfl ?_)
        refine O_nil ⟨_, ?_, [(0, _), (3, _), (4, _), (5, _), (6, _), (8, _), (10, _)], ⟨rfl, rfl, rfl, rfl, rfl, rfl, rfl, trivial⟩, ⟨k + 1, _, by omega, rfl, hx, hy, rfl, hs⟩⟩
        omega
      · -- h71: False
        dsimp only [cmpP] at h71
        refine O_y hs (Y_pickT rfl rfl ?_)
        refine O_y hs (Y_move rfl ?_)
        refine O_yy 73 hs rfl rfl (Y_move rfl ?_)
        refine O_yy 73 hs rfl rfl (Y_move rfl ?_)
        refine O_yy 73 hs rfl rfl (Y_idxB hb k Tryd.underlying22 Tryd.sizeOf5 rfl rfl rfl (by omega) fun p76 hp76 => ?_)
        refine O_yy 73 hs rfl rfl (Y_ldG Tryd.isAgg5 rfl (hp76) ?_)
        refine O_yy 73 hs rfl rfl (Y_cmpS rfl rfl rfl (fun h78 => ?_) (fun h78 => ?_))
        · -- h78: True
          dsimp only [cmpP] at h78
          refine O_yy 73 hs rfl rfl (Y_move rfl ?_)
          refine O_yy 79 hs rfl rfl (Y_move rfl ?_)
          refine O_yy 79 hs rfl rfl (Y_move rfl ?_)
          refine O_yy 79 hs rfl rfl (Y_idxB hb k Tryd.underlying22 Tryd.sizeOf5 rfl rfl rfl (by omega) fun p82 hp82 => ?_)
          refine O_yy 79 hs rfl rfl (Y_ldG Tryd.isAgg5 rfl (hp82) ?_)
          refine O_yy 79 hs rfl rfl (Y_cmpS rfl rfl rfl (fun h84 => ?_) (fun h84 => ?_))
          · -- h84: True
            dsimp only [cmpP] at h84
            refine O_yy 73 hs rfl rfl (Y_pickT rfl rfl ?_)
            refine O_y hs (Y_pickF rfl rfl ?_)
            refine O_y hs (Y_assign rfl ?_)
            refine O_nil (T_sub [(0, _), (3, _), (4, _), (5, _), (6, _), (8, _), (10, _), (11, _)] ⟨rfl, rfl, rfl, rfl, rfl, rfl, rfl, rfl, trivial⟩ ?_)
            refine T_seq (T_drawS [0, 1, 2, 3, 4, 5, 6, 7, 8, 9, 10, 11, 12, 13, 14, 15, 16, 17, 18, 19, 20, 21, 22, 23, 24, 25, 26, 27, 28, 29, 30, 31, 32, 33, 34, 35, 36, 37, 38, 39, 40, 41, 42, 43, 44, 45, 46, 47, 48, 49, 50] hs (by kernel_rfl) ?_)
            replace hs := hs.drew
            refine A_take 0 rfl (by kernel_rfl) rfl hs (Y_move rfl ?_)
            refine A_take 1 rfl (by kernel_rfl) rfl hs (Y_not rfl ?_)
            refine A_take 2 rfl (by kernel_rfl) rfl hs (Y_move rfl ?_)
            refine A_skip 3 rfl (by kernel_rfl) rfl hs ?_
            refine A_skip 4 rfl (by kernel_rfl) rfl hs ?_
            refine A_skip 5 rfl (by kernel_rfl) rfl hs ?_
            refine A_skip 6 rfl (by kernel_rfl) rfl hs ?_
            refine A_skip 7 rfl (by kernel_rfl) rfl hs ?_
            refine A_skip 8 rfl (by kernel_rfl) rfl hs ?_
            refine A_skip 9 rfl (by kernel_rfl) rfl hs ?_
            refine A_skip 10 rfl (by kernel_rfl) rfl hs ?_
            refine A_skip 11 rfl (by kernel_rfl) rfl hs ?_
            refine A_skip 12 rfl (by kernel_rfl) rfl hs ?_
            refine A_skip 13 rfl (by kernel_rfl) rfl hs ?_
            refine A_skip 14 rfl (by kernel_rfl) rfl hs ?_
            refine A_skip 15 rfl (by kernel_rfl) rfl hs ?_
            refine A_skip 16 rfl (by kernel_rfl) rfl hs ?_
            refine A_skip 17 rfl (by kernel_rfl) rfl hs ?_
            refine A_skip 18 rfl (by kernel_rfl) rfl hs ?_
            refine A_skip 19 rfl (by kernel_rfl) rfl hs ?_
            refine A_skip 20 rfl (by kernel_rfl) rfl hs ?_
            refine A_skip 21 rfl (by kernel_rfl) rfl hs ?_
            refine A_skip 22 rfl (by kernel_rfl) rfl hs ?_
            refine A_take 23 rfl (by kernel_rfl) rfl hs (Y_pickF rfl rfl ?_)
            refine A_take 24 rfl (by kernel_rfl) rfl hs (Y_move rfl ?_)
            refine A_take 25 rfl (by kernel_rfl) rfl hs (Y_move rfl ?_)
            refine A_take 26 rfl (by kernel_rfl) rfl hs (Y_move rfl ?_)
            refine A_take 27 rfl (by kernel_rfl) rfl hs (Y_move rfl ?_)
            refine A_take 28 rfl (by kernel_rfl) rfl hs (Y_move rfl ?_)
            refine A_take 29 rfl (by kernel_rfl) rfl hs (Y_idxB hx k Tryd.underlying22 Tryd.sizeOf5 rfl rfl rfl (by rw [List.length_map]; omega) fun p116 hp116 => ?_)
            refine A_take 30 rfl (by kernel_rfl) rfl hs (Y_ldG Tryd.isAgg5 rfl (hp116) ?_)
            refine A_take 31 rfl (by kernel_rfl) rfl hs (Y_move rfl ?_)
            refine A_take 32 rfl (by kernel_rfl) rfl hs (Y_move rfl ?_)
            refine A_take 33 rfl (by kernel_rfl) rfl hs (Y_idxB hb k Tryd.underlying22 Tryd.sizeOf5 rfl rfl rfl (by omega) fun p120 hp120 => ?_)
            refine A_take 34 rfl (by kernel_rfl) rfl hs (Y_ldG Tryd.isAgg5 rfl (hp120) ?_)
            refine A_take 35 rfl (by kernel_rfl) rfl hs (Y_bits (c := ((lowerF (b[k]'(by omega))).toNat : Int)) rfl rfl (.inr (.inl rfl)) (low_bits _ (by omega)) ?_)
            refine A_take 36 rfl (by kernel_rfl) rfl hs (Y_cmpF rfl rfl rfl (by simp [cmpP]) ?_)
            refine A_take 37 rfl (by kernel_rfl) rfl hs (Y_move rfl ?_)
            refine A_take 38 rfl (by kernel_rfl) rfl hs (Y_move rfl ?_)
            refine A_take 39 rfl (by kernel_rfl) rfl hs (Y_move rfl ?_)
            refine A_take 40 rfl (by kernel_rfl) rfl hs (Y_idxB hy k Tryd.underlying22 Tryd.sizeOf5 rfl rfl rfl (by rw [List.length_map]; omega) fun p127 hp127 => ?_)
            refine A_take 41 rfl (by kernel_rfl) rfl hs (Y_ldG Tryd.isAgg5 rfl (hp127) ?_)
            refine A_take 42 rfl (by kernel_rfl) rfl hs (Y_move rfl ?_)
            refine A_take 43 rfl (by kernel_rfl) rfl hs (Y_move rfl ?_)
            refine A_take 44 rfl (by kernel_rfl) rfl hs (Y_idxB hb k Tryd.underlying22 Tryd.sizeOf5 rfl rfl rfl (by omega) fun p131 hp131 => ?_)
            refine A_take 45 rfl (by kernel_rfl) rfl hs (Y_ldG Tryd.isAgg5 rfl (hp131) ?_)
            refine A_take 46 rfl (by kernel_rfl) rfl hs (Y_bits (c := ((upperF (b[k]'(by omega))).toNat : Int)) rfl rfl (.inr (.inr (.inr rfl))) (up_bits _ (by omega)) ?_)
            refine A_take 47 rfl (by kernel_rfl) rfl hs (Y_cmpF rfl rfl rfl (by simp [cmpP]) ?_)
            refine A_take 48 rfl (by kernel_rfl) rfl hs (Y_pickF rfl rfl ?_)
            refine A_take 49 rfl (by kernel_rfl) rfl hs (Y_pickT rfl rfl ?_)
            refine A_take 50 rfl (by kernel_rfl) rfl hs (Y_pickF rfl rfl ?_)
            refine A_done (by kernel_rfl) (T_sub [(0, _), (3, _), (4, _), (5, _), (6, _), (8, _), (10, _), (137, _)] ⟨rfl, rfl, rfl, rfl, rfl, rfl, rfl, rfl, trivial⟩ ?_)
            refine T_condF rfl (T_skip ?_)
            refine T_region rfl ?_
            refine O_y hs (Y_move rfl ?_)
            refine O_y hs (Y_add (c := ((k + 1 : Nat) : Int)) rfl rfl (by omega) (by omega) ?_)
            refine O_y hs (Y_assign rfl ?_)
            refine O_nil ⟨_, ?_, [(0, _), (3, _), (4, _), (5, _), (6, _), (8, _), (10, _)], ⟨rfl, rfl, rfl, rfl, rfl, rfl, rfl, trivial⟩, ⟨k + 1, _, by omega, rfl, hx, hy, rfl, hs⟩⟩
            omega
          · -- h84: False
            dsimp only [cmpP] at h84
            refine O_yy 73 hs rfl rfl (Y_pickT rfl rfl ?_)
            refine O_y hs (Y_pickF rfl rfl ?_)
            refine O_y hs (Y_assign rfl ?_)
            refine O_nil (T_sub [(0, _), (3, _), (4, _), (5, _), (6, _), (8, _), (10, _), (11, _)] ⟨rfl, rfl, rfl, rfl, rfl, rfl, rfl, rfl, trivial⟩ ?_)
            refine T_seq (T_drawS [0, 1, 2, 3, 4, 5, 6, 7, 8, 9, 10, 11, 12, 13, 14, 15, 16, 17, 18, 19, 20, 21, 22, 23, 24, 25, 26, 27, 28, 29, 30, 31, 32, 33, 34, 35, 36, 37, 38, 39, 40, 41, 42, 43, 44, 45, 46, 47, 48, 49, 50] hs (by kernel_rfl) ?_)
            replace hs := hs.drew
            refine A_take 0 rfl (by kernel_rfl) rfl hs (Y_move rfl ?_)
            refine A_take 1 rfl (by kernel_rfl) rfl hs (Y_not rfl ?_)
            refine A_take 2 rfl (by kernel_rfl) rfl hs (Y_move rfl ?_)
            refine A_take 3 rfl (by kernel_rfl) rfl hs (Y_move rfl ?_)
            refine A_take 4 rfl (by kernel_rfl) rfl hs (Y_move rfl ?_)
            refine A_take 5 rfl (by kernel_rfl) rfl hs (Y_idxB hx k Tryd.underlying22 Tryd.sizeOf5 rfl rfl rfl (by rw [List.length_map]; omega) fun p92 hp92 => ?_)
            refine A_take 6 rfl (by kernel_rfl) rfl hs (Y_ldG Tryd.isAgg5 rfl (hp92) ?_)
            refine A_take 7 rfl (by kernel_rfl) rfl hs (Y_move rfl ?_)
            refine A_take 8 rfl (by kernel_rfl) rfl hs (Y_move rfl ?_)
            refine A_take 9 rfl (by kernel_rfl) rfl hs (Y_idxB hb k Tryd.underlying22 Tryd.sizeOf5 rfl rfl rfl (by omega) fun p96 hp96 => ?_)
            refine A_take 10 rfl (by kernel_rfl) rfl hs (Y_ldG Tryd.isAgg5 rfl (hp96) ?_)
            refine A_take 11 rfl (by kernel_rfl) rfl hs (Y_cmpF rfl rfl rfl (by have e := low_other (x := (b[k]'(by omega))) (by omega); simp [cmpP, e]) ?_)
            refine A_take 12 rfl (by kernel_rfl) rfl hs (Y_move rfl ?_)
            refine A_take 13 rfl (by kernel_rfl) rfl hs (Y_move rfl ?_)
            refine A_take 14 rfl (by kernel_rfl) rfl hs (Y_move rfl ?_)
            refine A_take 15 rfl (by kernel_rfl) rfl hs (Y_idxB hy k Tryd.underlying22 Tryd.sizeOf5 rfl rfl rfl (by rw [List.length_map]; omega) fun p102 hp102 => ?_)
            refine A_take 16 rfl (by kernel_rfl) rfl hs (Y_ldG Tryd.isAgg5 rfl (hp102) ?_)
            refine A_take 17 rfl (by kernel_rfl) rfl hs (Y_move rfl ?_)
            refine A_take 18 rfl (by kernel_rfl) rfl hs (Y_move rfl ?_)
            refine A_take 19 rfl (by kernel_rfl) rfl hs (Y_idxB hb k Tryd.underlying22 Tryd.sizeOf5 rfl rfl rfl (by omega) fun p106 hp106 => ?_)
            refine A_take 20 rfl (by kernel_rfl) rfl hs (Y_ldG Tryd.isAgg5 rfl (hp106) ?_)
            refine A_take 21 rfl (by kernel_rfl) rfl hs (Y_cmpF rfl rfl rfl (by have e := up_other (x := (b[k]'(by omega))) (by omega); simp [cmpP, e]) ?_)
            refine A_take 22 rfl (by kernel_rfl) rfl hs (Y_pickF rfl rfl ?_)
            refine A_take 23 rfl (by kernel_rfl) rfl hs (Y_pickT rfl rfl ?_)
            refine A_take 24 rfl (by kernel_rfl) rfl hs (Y_move rfl ?_)
            refine A_take 25 rfl (by kernel_rfl) rfl hs (Y_move rfl ?_)
            refine A_take 26 rfl (by kernel_rfl) rfl hs (Y_move rfl ?_)
            refine A_skip 27 rfl (by kernel_rfl) rfl hs ?_
            refine A_skip 28 rfl (by kernel_rfl) rfl hs ?_
            refine A_skip 29 rfl (by kernel_rfl) rfl hs ?_
            refine A_skip 30 rfl (by kernel_rfl) rfl hs ?_
            refine A_skip 31 rfl (by kernel_rfl) rfl hs ?_
            refine A_skip 32 rfl (by kernel_rfl) rfl hs ?_
            refine A_skip 33 rfl (by kernel_rfl) rfl hs ?_
            refine A_skip 34 rfl (by kernel_rfl) rfl hs ?_
            refine A_skip 35 rfl (by kernel_rfl) rfl hs ?_
            refine A_skip 36 rfl (by kernel_rfl) rfl hs ?_
            refine A_skip 37 rfl (by kernel_rfl) rfl hs ?_
            refine A_skip 38 rfl (by kernel_rfl) rfl hs ?_
            refine A_skip 39 rfl (by kernel_rfl) rfl hs ?_
            refine A_skip 40 rfl (by kernel_rfl) rfl hs ?_
            refine A_skip 41 rfl (by kernel_rfl) rfl hs ?_
            refine A_skip 42 rfl (by kernel_rfl) rfl hs ?_
            refine A_skip 43 rfl (by kernel_rfl) rfl hs ?_
            refine A_skip 44 rfl (by kernel_rfl) rfl hs ?_
            refine A_skip 45 rfl (by kernel_rfl) rfl hs ?_
            refine A_skip 46 rfl (by kernel_rfl) rfl hs ?_
            refine A_skip 47 rfl (by kernel_rfl) rfl hs ?_
            refine A_skip 48 rfl (by kernel_rfl) rfl hs ?_
            refine A_take 49 rfl (by kernel_rfl) rfl hs (Y_pickF rfl rfl ?_)
            refine A_take 50 rfl (by kernel_rfl) rfl hs (Y_pickF rfl rfl ?_)
            refine A_done (by kernel_rfl) (T_sub [(0, _), (3, _), (4, _), (5, _), (6, _), (8, _), (10, _), (137, _)] ⟨rfl, rfl, rfl, rfl, rfl, rfl, rfl, rfl, trivial⟩ ?_)
            refine T_condF rfl (T_skip ?_)
            refine T_region rfl ?_
            refine O_y hs (Y_move rfl ?_)
            refine O_y hs (Y_add (c := ((k + 1 : Nat) : Int)) rfl rfl (by omega) (by omega) ?_)
            refine O_y hs (Y_assign rfl ?_)
            refine O_nil ⟨_, ?_, [(0, _), (3, _), (4, _), (5, _), (6, _), (8, _), (10, _)], ⟨rfl, rfl, rfl, rfl, rfl, rfl, rfl, trivial⟩, ⟨k + 1, _, by omega, rfl, hx, hy, rfl, hs⟩⟩
            omega
        · -- h78: False
          dsimp only [cmpP] at h78
          refine O_yy 73 hs rfl rfl (Y_move rfl ?_)
          refine O_no 79 rfl rfl ?_
          refine O_no 79 rfl rfl ?_
          refine O_no 79 rfl rfl ?_
          refine O_no 79 rfl rfl ?_
          refine O_no 79 rfl rfl ?_
          refine O_yy 73 hs rfl rfl (Y_pickF rfl rfl ?_)
          refine O_y hs (Y_pickF rfl rfl ?_)
          refine O_y hs (Y_assign rfl ?_)
          refine O_nil (T_sub [(0, _), (3, _), (4, _), (5, _), (6, _), (8, _), (10, _), (11, _)] ⟨rfl, rfl, rfl, rfl, rfl, rfl, rfl, rfl, trivial⟩ ?_)
          refine T_seq (T_drawS [0, 1, 2, 3, 4, 5, 6, 7, 8, 9, 10, 11, 12, 13, 14, 15, 16, 17, 18, 19, 20, 21, 22, 23, 24, 25, 26, 27, 28, 29, 30, 31, 32, 33, 34, 35, 36, 37, 38, 39, 40, 41, 42, 43, 44, 45, 46, 47, 48, 49, 50] hs (by kernel_rfl) ?_)
          replace hs := hs.drew
          refine A_take 0 rfl (by kernel_rfl) rfl hs (Y_move rfl ?_)
          refine A_take 1 rfl (by kernel_rfl) rfl hs (Y_not rfl ?_)
          refine A_take 2 rfl (by kernel_rfl) rfl hs (Y_move rfl ?_)
          refine A_take 3 rfl (by kernel_rfl) rfl hs (Y_move rfl ?_)
          refine A_take 4 rfl (by kernel_rfl) rfl hs (Y_move rfl ?_)
          refine A_take 5 rfl (by kernel_rfl) rfl hs (Y_idxB hx k Tryd.underlying22 Tryd.sizeOf5 rfl rfl rfl (by rw [List.length_map]; omega) fun p92 hp92 => ?_)
          refine A_take 6 rfl (by kernel_rfl) rfl hs (Y_ldG Tryd.isAgg5 rfl (hp92) ?_)
          refine A_take 7 rfl (by kernel_rfl) rfl hs (Y_move rfl ?_)
          refine A_take 8 rfl (by kernel_rfl) rfl hs (Y_move rfl ?_)
          refine A_take 9 rfl (by kernel_rfl) rfl hs (Y_idxB hb k Tryd.underlying22 Tryd.sizeOf5 rfl rfl rfl (by omega) fun p96 hp96 => ?_)
          refine A_take 10 rfl (by kernel_rfl) rfl hs (Y_ldG Tryd.isAgg5 rfl (hp96) ?_)
          refine A_take 11 rfl (by kernel_rfl) rfl hs (Y_cmpF rfl rfl rfl (by have e := low_other (x := (b[k]'(by omega))) (by omega); simp [cmpP, e]) ?_)
          refine A_take 12 rfl (by kernel_rfl) rfl hs (Y_move rfl ?_)
          refine A_take 13 rfl (by kernel_rfl) rfl hs (Y_move rfl ?_)
          refine A_take 14 rfl (by kernel_rfl) rfl hs (Y_move rfl ?_)
          refine A_take 15 rfl (by kernel_rfl) rfl hs (Y_idxB hy k Tryd.underlying22 Tryd.sizeOf5 rfl rfl rfl (by rw [List.length_map]; omega) fun p102 hp102 => ?_)
          refine A_take 16 rfl (by kernel_rfl) rfl hs (Y_ldG Tryd.isAgg5 rfl (hp102) ?_)
          refine A_take 17 rfl (by kernel_rfl) rfl hs (Y_move rfl ?_)
          refine A_take 18 rfl (by kernel_rfl) rfl hs (Y_move rfl ?_)
          refine A_take 19 rfl (by kernel_rfl) rfl hs (Y_idxB hb k Tryd.underlying22 Tryd.sizeOf5 rfl rfl rfl (by omega) fun p106 hp106 => ?_)
          refine A_take 20 rfl (by kernel_rfl) rfl hs (Y_ldG Tryd.isAgg5 rfl (hp106) ?_)
          refine A_take 21 rfl (by kernel_rfl) rfl hs (Y_cmpF rfl rfl rfl (by have e := up_other (x := (b[k]'(by omega))) (by omega); simp [cmpP, e]) ?_)
          refine A_take 22 rfl (by kernel_rfl) rfl hs (Y_pickF rfl rfl ?_)
          refine A_take 23 rfl (by kernel_rfl) rfl hs (Y_pickT rfl rfl ?_)
          refine A_take 24 rfl (by kernel_rfl) rfl hs (Y_move rfl ?_)
          refine A_take 25 rfl (by kernel_rfl) rfl hs (Y_move rfl ?_)
          refine A_take 26 rfl (by kernel_rfl) rfl hs (Y_move rfl ?_)
          refine A_skip 27 rfl (by kernel_rfl) rfl hs ?_
          refine A_skip 28 rfl (by kernel_rfl) rfl hs ?_
          refine A_skip 29 rfl (by kernel_rfl) rfl hs ?_
          refine A_skip 30 rfl (by kernel_rfl) rfl hs ?_
          refine A_skip 31 rfl (by kernel_rfl) rfl hs ?_
          refine A_skip 32 rfl (by kernel_rfl) rfl hs ?_
          refine A_skip 33 rfl (by kernel_rfl) rfl hs ?_
          refine A_skip 34 rfl (by kernel_rfl) rfl hs ?_
          refine A_skip 35 rfl (by kernel_rfl) rfl hs ?_
          refine A_skip 36 rfl (by kernel_rfl) rfl hs ?_
          refine A_skip 37 rfl (by kernel_rfl) rfl hs ?_
          refine A_skip 38 rfl (by kernel_rfl) rfl hs ?_
          refine A_skip 39 rfl (by kernel_rfl) rfl hs ?_
          refine A_skip 40 rfl (by kernel_rfl) rfl hs ?_
          refine A_skip 41 rfl (by kernel_rfl) rfl hs ?_
          refine A_skip 42 rfl (by kernel_rfl) rfl hs ?_
          refine A_skip 43 rfl (by kernel_rfl) rfl hs ?_
          refine A_skip 44 rfl (by kernel_rfl) rfl hs ?_
          refine A_skip 45 rfl (by kernel_rfl) rfl hs ?_
          refine A_skip 46 rfl (by kernel_rfl) rfl hs ?_
          refine A_skip 47 rfl (by kernel_rfl) rfl hs ?_
          refine A_skip 48 rfl (by kernel_rfl) rfl hs ?_
          refine A_take 49 rfl (by kernel_rfl) rfl hs (Y_pickF rfl rfl ?_)
          refine A_take 50 rfl (by kernel_rfl) rfl hs (Y_pickF rfl rfl ?_)
          refine A_done (by kernel_rfl) (T_sub [(0, _), (3, _), (4, _), (5, _), (6, _), (8, _), (10, _), (137, _)] ⟨rfl, rfl, rfl, rfl, rfl, rfl, rfl, rfl, trivial⟩ ?_)
          refine T_condF rfl (T_skip ?_)
          refine T_region rfl ?_
          refine O_y hs (Y_move rfl ?_)
          refine O_y hs (Y_add (c := ((k + 1 : Nat) : Int)) rfl rfl (by omega) (by omega) ?_)
          refine O_y hs (Y_assign rfl ?_)
          refine O_nil ⟨_, ?_, [(0, _), (3, _), (4, _), (5, _), (6, _), (8, _), (10, _)], ⟨rfl, rfl, rfl, rfl, rfl, rfl, rfl, trivial⟩, ⟨k + 1, _, by omega, rfl, hx, hy, rfl, hs⟩⟩
          omega
    · -- h65: False
      dsimp only [cmpP] at h65
      refine O_y hs (Y_move rfl ?_)
      refine O_no 66 rfl rfl ?_
      refine O_no 66 rfl rfl ?_
      refine O_no 66 rfl rfl ?_
      refine O_no 66 rfl rfl ?_
      refine O_no 66 rfl rfl ?_
      refine O_y hs (Y_pickF rfl rfl ?_)
      refine O_y hs (Y_move rfl ?_)
      refine O_yy 73 hs rfl rfl (Y_move rfl ?_)
      refine O_yy 73 hs rfl rfl (Y_move rfl ?_)
      refine O_yy 73 hs rfl rfl (Y_idxB hb k Tryd.underlying22 Tryd.sizeOf5 rfl rfl rfl (by omega) fun p76 hp76 => ?_)
      refine O_yy 73 hs rfl rfl (Y_ldG Tryd.isAgg5 rfl (hp76) ?_)
      refine O_yy 73 hs rfl rfl (Y_cmpS rfl rfl rfl (fun h78 => ?_) (fun h78 => ?_))
      · -- h78: True
        dsimp only [cmpP] at h78
        refine O_yy 73 hs rfl rfl (Y_move rfl ?_)
        refine O_yy 79 hs rfl rfl (Y_move rfl ?_)
        refine O_yy 79 hs rfl rfl (Y_move rfl ?_)
        refine O_yy 79 hs rfl rfl (Y_idxB hb k Tryd.underlying22 Tryd.sizeOf5 rfl rfl rfl (by omega) fun p82 hp82 => ?_)
        refine O_yy 79 hs rfl rfl (Y_ldG Tryd.isAgg5 rfl (hp82) ?_)
        refine O_yy 79 hs rfl rfl (Y_cmpS rfl rfl rfl (fun h84 => ?_) (fun h84 => ?_))
        · -- h84: True
          dsimp only [cmpP] at h84
          refine O_yy 73 hs rfl rfl (Y_pickT rfl rfl ?_)
          refine O_y hs (Y_pickF rfl rfl ?_)
          refine O_y hs (Y_assign rfl ?_)
          refine O_nil (T_sub [(0, _), (3, _), (4, _), (5, _), (6, _), (8, _), (10, _), (11, _)] ⟨rfl, rfl, rfl, rfl, rfl, rfl, rfl, rfl, trivial⟩ ?_)
          refine T_seq (T_drawS [0, 1, 2, 3, 4, 5, 6, 7, 8, 9, 10, 11, 12, 13, 14, 15, 16, 17, 18, 19, 20, 21, 22, 23, 24, 25, 26, 27, 28, 29, 30, 31, 32, 33, 34, 35, 36, 37, 38, 39, 40, 41, 42, 43, 44, 45, 46, 47, 48, 49, 50] hs (by kernel_rfl) ?_)
          replace hs := hs.drew
          refine A_take 0 rfl (by kernel_rfl) rfl hs (Y_move rfl ?_)
          refine A_take 1 rfl (by kernel_rfl) rfl hs (Y_not rfl ?_)
          refine A_take 2 rfl (by kernel_rfl) rfl hs (Y_move rfl ?_)
          refine A_skip 3 rfl (by kernel_rfl) rfl hs ?_
          refine A_skip 4 rfl (by kernel_rfl) rfl hs ?_
          refine A_skip 5 rfl (by kernel_rfl) rfl hs ?_
          refine A_skip 6 rfl (by kernel_rfl) rfl hs ?_
          refine A_skip 7 rfl (by kernel_rfl) rfl hs ?_
          refine A_skip 8 rfl (by kernel_rfl) rfl hs ?_
          refine A_skip 9 rfl (by kernel_rfl) rfl hs ?_
          refine A_skip 10 rfl (by kernel_rfl) rfl hs ?_
          refine A_skip 11 rfl (by kernel_rfl) rfl hs ?_
          refine A_skip 12 rfl (by kernel_rfl) rfl hs ?_
          refine A_skip 13 rfl (by kernel_rfl) rfl hs ?_
          refine A_skip 14 rfl (by kernel_rfl) rfl hs ?_
          refine A_skip 15 rfl (by kernel_rfl) rfl hs ?_
          refine A_skip 16 rfl (by kernel_rfl) rfl hs ?_
          refine A_skip 17 rfl (by kernel_rfl) rfl hs ?_
          refine A_skip 18 rfl (by kernel_rfl) rfl hs ?_
          refine A_skip 19 rfl (by kernel_rfl) rfl hs ?_
          refine A_skip 20 rfl (by kernel_rfl) rfl hs ?_
          refine A_skip 21 rfl (by kernel_rfl) rfl hs ?_
          refine A_skip 22 rfl (by kernel_rfl) rfl hs ?_
          refine A_take 23 rfl (by kernel_rfl) rfl hs (Y_pickF rfl rfl ?_)
          refine A_take 24 rfl (by kernel_rfl) rfl hs (Y_move rfl ?_)
          refine A_take 25 rfl (by kernel_rfl) rfl hs (Y_move rfl ?_)
          refine A_take 26 rfl (by kernel_rfl) rfl hs (Y_move rfl ?_)
          refine A_take 27 rfl (by kernel_rfl) rfl hs (Y_move rfl ?_)
          refine A_take 28 rfl (by kernel_rfl) rfl hs (Y_move rfl ?_)
          refine A_take 29 rfl (by kernel_rfl) rfl hs (Y_idxB hx k Tryd.underlying22 Tryd.sizeOf5 rfl rfl rfl (by rw [List.length_map]; omega) fun p116 hp116 => ?_)
          refine A_take 30 rfl (by kernel_rfl) rfl hs (Y_ldG Tryd.isAgg5 rfl (hp116) ?_)
          refine A_take 31 rfl (by kernel_rfl) rfl hs (Y_move rfl ?_)
          refine A_take 32 rfl (by kernel_rfl) rfl hs (Y_move rfl ?_)
          refine A_take 33 rfl (by kernel_rfl) rfl hs (Y_idxB hb k Tryd.underlying22 Tryd.sizeOf5 rfl rfl rfl (by omega) fun p120 hp120 => ?_)
          refine A_take 34 rfl (by kernel_rfl) rfl hs (Y_ldG Tryd.isAgg5 rfl (hp120) ?_)
          refine A_take 35 rfl (by kernel_rfl) rfl hs (Y_bits (c := ((lowerF (b[k]'(by omega))).toNat : Int)) rfl rfl (.inr (.inl rfl)) (low_bits _ (by omega)) ?_)
          refine A_take 36 rfl (by kernel_rfl) rfl hs (Y_cmpF rfl rfl rfl (by simp [cmpP]) ?_)
          refine A_take 37 rfl (by kernel_rfl) rfl hs (Y_move rfl ?_)
          refine A_take 38 rfl (by kernel_rfl) rfl hs (Y_move rfl ?_)
          refine A_take 39 rfl (by kernel_rfl) rfl hs (Y_move rfl ?_)
          refine A_take 40 rfl (by kernel_rfl) rfl hs (Y_idxB hy k Tryd.underlying22 Tryd.sizeOf5 rfl rfl rfl (by rw [List.length_map]; omega) fun p127 hp127 => ?_)
          refine A_take 41 rfl (by kernel_rfl) rfl hs (Y_ldG Tryd.isAgg5 rfl (hp127) ?_)
          refine A_take 42 rfl (by kernel_rfl) rfl hs (Y_move rfl ?_)
          refine A_take 43 rfl (by kernel_rfl) rfl hs (Y_move rfl ?_)
          refine A_take 44 rfl (by kernel_rfl) rfl hs (Y_idxB hb k Tryd.underlying22 Tryd.sizeOf5 rfl rfl rfl (by omega) fun p131 hp131 => ?_)
          refine A_take 45 rfl (by kernel_rfl) rfl hs (Y_ldG Tryd.isAgg5 rfl (hp131) ?_)
          refine A_take 46 rfl (by kernel_rfl) rfl hs (Y_bits (c := ((upperF (b[k]'(by omega))).toNat : Int)) rfl rfl (.inr (.inr (.inr rfl))) (up_bits _ (by omega)) ?_)
          refine A_take 47 rfl (by kernel_rfl) rfl hs (Y_cmpF rfl rfl rfl (by simp [cmpP]) ?_)
          refine A_take 48 rfl (by kernel_rfl) rfl hs (Y_pickF rfl rfl ?_)
          refine A_take 49 rfl (by kernel_rfl) rfl hs (Y_pickT rfl rfl ?_)
          refine A_take 50 rfl (by kernel_rfl) rfl hs (Y_pickF rfl rfl ?_)
          refine A_done (by kernel_rfl) (T_sub [(0, _), (3, _), (4, _), (5, _), (6, _), (8, _), (10, _), (137, _)] ⟨rfl, rfl, rfl, rfl, rfl, rfl, rfl, rfl, trivial⟩ ?_)
          refine T_condF rfl (T_skip ?_)
          refine T_region rfl ?_
          refine O_y hs (Y_move rfl ?_)
          refine O_y hs (Y_add (c := ((k + 1 : Nat) : Int)) rfl rfl (by omega) (by omega) ?_)
          refine O_y hs (Y_assign rfl ?_)
          refine O_nil ⟨_, ?_, [(0, _), (3, _), (4, _), (5, _), (6, _), (8, _), (10, _)], ⟨rfl, rfl, rfl, rfl, rfl, rfl, rfl, trivial⟩, ⟨k + 1, _, by omega, rfl, hx, hy, rfl, hs⟩⟩
          omega
        · -- h84: False
          dsimp only [cmpP] at h84
          refine O_yy 73 hs rfl rfl (Y_pickT rfl rfl ?_)
          refine O_y hs (Y_pickF rfl rfl ?_)
          refine O_y hs (Y_assign rfl ?_)
          refine O_nil (T_sub [(0, _), (3, _), (4, _), (5, _), (6, _), (8, _), (10, _), (11, _)] ⟨rfl, rfl, rfl, rfl, rfl, rfl, rfl, rfl, trivial⟩ ?_)
          refine T_seq (T_drawS [0, 1, 2, 3, 4, 5, 6, 7, 8, 9, 10, 11, 12, 13, 14, 15, 16, 17, 18, 19, 20, 21, 22, 23, 24, 25, 26, 27, 28, 29, 30, 31, 32, 33, 34, 35, 36, 37, 38, 39, 40, 41, 42, 43, 44, 45, 46, 47, 48, 49, 50] hs (by kernel_rfl) ?_)
          replace hs := hs.drew
          refine A_take 0 rfl (by kernel_rfl) rfl hs (Y_move rfl ?_)
          refine A_take 1 rfl (by kernel_rfl) rfl hs (Y_not rfl ?_)
          refine A_take 2 rfl (by kernel_rfl) rfl hs (Y_move rfl ?_)
          refine A_take 3 rfl (by kernel_rfl) rfl hs (Y_move rfl ?_)
          refine A_take 4 rfl (by kernel_rfl) rfl hs (Y_move rfl ?_)
          refine A_take 5 rfl (by kernel_rfl) rfl hs (Y_idxB hx k Tryd.underlying22 Tryd.sizeOf5 rfl rfl rfl (by rw [List.length_map]; omega) fun p92 hp92 => ?_)
          refine A_take 6 rfl (by kernel_rfl) rfl hs (Y_ldG Tryd.isAgg5 rfl (hp92) ?_)
          refine A_take 7 rfl (by kernel_rfl) rfl hs (Y_move rfl ?_)
          refine A_take 8 rfl (by kernel_rfl) rfl hs (Y_move rfl ?_)
          refine A_take 9 rfl (by kernel_rfl) rfl hs (Y_idxB hb k Tryd.underlying22 Tryd.sizeOf5 rfl rfl rfl (by omega) fun p96 hp96 => ?_)
          refine A_take 10 rfl (by kernel_rfl) rfl hs (Y_ldG Tryd.isAgg5 rfl (hp96) ?_)
          refine A_take 11 rfl (by kernel_rfl) rfl hs (Y_cmpF rfl rfl rfl (by have e := low_other (x := (b[k]'(by omega))) (by omega); simp [cmpP, e]) ?_)
          refine A_take 12 rfl (by kernel_rfl) rfl hs (Y_move rfl ?_)
          refine A_take 13 rfl (by kernel_rfl) rfl hs (Y_move rfl ?_)
          refine A_take 14 rfl (by kernel_rfl) rfl hs (Y_move rfl ?_)
          refine A_take 15 rfl (by kernel_rfl) rfl hs (Y_idxB hy k Tryd.underlying22 Tryd.sizeOf5 rfl rfl rfl (by rw [List.length_map]; omega) fun p102 hp102 => ?_)
          refine A_take 16 rfl (by kernel_rfl) rfl hs (Y_ldG Tryd.isAgg5 rfl (hp102) ?_)
          refine A_take 17 rfl (by kernel_rfl) rfl hs (Y_move rfl ?_)
          refine A_take 18 rfl (by kernel_rfl) rfl hs (Y_move rfl ?_)
          refine A_take 19 rfl (by kernel_rfl) rfl hs (Y_idxB hb k Tryd.underlying22 Tryd.sizeOf5 rfl rfl rfl (by omega) fun p106 hp106 => ?_)
          refine A_take 20 rfl (by kernel_rfl) rfl hs (Y_ldG Tryd.isAgg5 rfl (hp106) ?_)
          refine A_take 21 rfl (by kernel_rfl) rfl hs (Y_cmpF rfl rfl rfl (by have e := up_other (x := (b[k]'(by omega))) (by omega); simp [cmpP, e]) ?_)
          refine A_take 22 rfl (by kernel_rfl) rfl hs (Y_pickF rfl rfl ?_)
          refine A_take 23 rfl (by kernel_rfl) rfl hs (Y_pickT rfl rfl ?_)
          refine A_take 24 rfl (by kernel_rfl) rfl hs (Y_move rfl ?_)
          refine A_take 25 rfl (by kernel_rfl) rfl hs (Y_move rfl ?_)
          refine A_take 26 rfl (by kernel_rfl) rfl hs (Y_move rfl ?_)
          refine A_skip 27 rfl (by kernel_rfl) rfl hs ?_
          refine A_skip 28 rfl (by kernel_rfl) rfl hs ?_
          refine A_skip 29 rfl (by kernel_rfl) rfl hs ?_
          refine A_skip 30 rfl (by kernel_rfl) rfl hs ?_
          refine A_skip 31 rfl (by kernel_rfl) rfl hs ?_
          refine A_skip 32 rfl (by kernel_rfl) rfl hs ?_
          refine A_skip 33 rfl (by kernel_rfl) rfl hs ?_
          refine A_skip 34 rfl (by kernel_rfl) rfl hs ?_
          refine A_skip 35 rfl (by kernel_rfl) rfl hs ?_
          refine A_skip 36 rfl (by kernel_rfl) rfl hs ?_
          refine A_skip 37 rfl (by kernel_rfl) rfl hs ?_
          refine A_skip 38 rfl (by kernel_rfl) rfl hs ?_
          refine A_skip 39 rfl (by kernel_rfl) rfl hs ?_
          refine A_skip 40 rfl (by kernel_rfl) rfl hs ?_
          refine A_skip 41 rfl (by kernel_rfl) rfl hs ?_
          refine A_skip 42 rfl (by kernel_rfl) rfl hs ?_
          refine A_skip 43 rfl (by kernel_rfl) rfl hs ?_
          refine A_skip 44 rfl (by kernel_rfl) rfl hs ?_
          refine A_skip 45 rfl (by kernel_rfl) rfl hs ?_
          refine A_skip 46 rfl (by kernel_rfl) rfl hs ?_
          refine A_skip 47 rfl (by kernel_rfl) rfl hs ?_
          refine A_skip 48 rfl (by kernel_rfl) rfl hs ?_
          refine A_take 49 rfl (by kernel_rfl) rfl hs (Y_pickF rfl rfl ?_)
          refine A_take 50 rfl (by kernel_rfl) rfl hs (Y_pickF rfl rfl ?_)
          refine A_done (by kernel_rfl) (T_sub [(0, _), (3, _), (4, _), (5, _), (6, _), (8, _), (10, _), (137, _)] ⟨rfl, rfl, rfl, rfl, rfl, rfl, rfl, rfl, trivial⟩ ?_)
          refine T_condF rfl (T_skip ?_)
          refine T_region rfl ?_
          refine O_y hs (Y_move rfl ?_)
          refine O_y hs (Y_add (c := ((k + 1 : Nat) : Int)) rfl rfl (by omega) (by omega) ?_)
          refine O_y hs (Y_assign rfl ?_)
          refine O_nil ⟨_, ?_, [(0, _), (3, _), (4, _), (5, _), (6, _), (8, _), (10, _)], ⟨rfl, rfl, rfl, rfl, rfl, rfl, rfl, trivial⟩, ⟨k + 1, _, by omega, rfl, hx, hy, rfl, hs⟩⟩
          omega
      · -- h78: False
        dsimp only [cmpP] at h78
        refine O_yy 73 hs rfl rfl (Y_move rfl ?_)
        refine O_no 79 rfl rfl ?_
        refine O_no 79 rfl rfl ?_
        refine O_no 79 rfl rfl ?_
        refine O_no 79 rfl rfl ?_
        refine O_no 79 rfl rfl ?_
        refine O_yy 73 hs rfl rfl (Y_pickF rfl rfl ?_)
        refine O_y hs (Y_pickF rfl rfl ?_)
        refine O_y hs (Y_assign rfl ?_)
        refine O_nil (T_sub [(0, _), (3, _), (4, _), (5, _), (6, _), (8, _), (10, _), (11, _)] ⟨rfl, rfl, rfl, rfl, rfl, rfl, rfl, rfl, trivial⟩ ?_)
        refine T_seq (T_drawS [0, 1, 2, 3, 4, 5, 6, 7, 8, 9, 10, 11, 12, 13, 14, 15, 16, 17, 18, 19, 20, 21, 22, 23, 24, 25, 26, 27, 28, 29, 30, 31, 32, 33, 34, 35, 36, 37, 38, 39, 40, 41, 42, 43, 44, 45, 46, 47, 48, 49, 50] hs (by kernel_rfl) ?_)
        replace hs := hs.drew
        refine A_take 0 rfl (by kernel_rfl) rfl hs (Y_move rfl ?_)
        refine A_take 1 rfl (by kernel_rfl) rfl hs (Y_not rfl ?_)
        refine A_take 2 rfl (by kernel_rfl) rfl hs (Y_move rfl ?_)
        refine A_take 3 rfl (by kernel_rfl) rfl hs (Y_move rfl ?_)
        refine A_take 4 rfl (by kernel_rfl) rfl hs (Y_move rfl ?_)
        refine A_take 5 rfl (by kernel_rfl) rfl hs (Y_idxB hx k Tryd.underlying22 Tryd.sizeOf5 rfl rfl rfl (by rw [List.length_map]; omega) fun p92 hp92 => ?_)
        refine A_take 6 rfl (by kernel_rfl) rfl hs (Y_ldG Tryd.isAgg5 rfl (hp92) ?_)
        refine A_take 7 rfl (by kernel_rfl) rfl hs (Y_move rfl ?_)
        refine A_take 8 rfl (by kernel_rfl) rfl hs (Y_move rfl ?_)
        refine A_take 9 rfl (by kernel_rfl) rfl hs (Y_idxB hb k Tryd.underlying22 Tryd.sizeOf5 rfl rfl rfl (by omega) fun p96 hp96 => ?_)
        refine A_take 10 rfl (by kernel_rfl) rfl hs (Y_ldG Tryd.isAgg5 rfl (hp96) ?_)
        refine A_take 11 rfl (by kernel_rfl) rfl hs (Y_cmpF rfl rfl rfl (by have e := low_other (x := (b[k]'(by omega))) (by omega); simp [cmpP, e]) ?_)
        refine A_take 12 rfl (by kernel_rfl) rfl hs (Y_move rfl ?_)
        refine A_take 13 rfl (by kernel_rfl) rfl hs (Y_move rfl ?_)
        refine A_take 14 rfl (by kernel_rfl) rfl hs (Y_move rfl ?_)
        refine A_take 15 rfl (by kernel_rfl) rfl hs (Y_idxB hy k Tryd.underlying22 Tryd.sizeOf5 rfl rfl rfl (by rw [List.length_map]; omega) fun p102 hp102 => ?_)
        refine A_take 16 rfl (by kernel_rfl) rfl hs (Y_ldG Tryd.isAgg5 rfl (hp102) ?_)
        refine A_take 17 rfl (by kernel_rfl) rfl hs (Y_move rfl ?_)
        refine A_take 18 rfl (by kernel_rfl) rfl hs (Y_move rfl ?_)
        refine A_take 19 rfl (by kernel_rfl) rfl hs (Y_idxB hb k Tryd.underlying22 Tryd.sizeOf5 rfl rfl rfl (by omega) fun p106 hp106 => ?_)
        refine A_take 20 rfl (by kernel_rfl) rfl hs (Y_ldG Tryd.isAgg5 rfl (hp106) ?_)
        refine A_take 21 rfl (by kernel_rfl) rfl hs (Y_cmpF rfl rfl rfl (by have e := up_other (x := (b[k]'(by omega))) (by omega); simp [cmpP, e]) ?_)
        refine A_take 22 rfl (by kernel_rfl) rfl hs (Y_pickF rfl rfl ?_)
        refine A_take 23 rfl (by kernel_rfl) rfl hs (Y_pickT rfl rfl ?_)
        refine A_take 24 rfl (by kernel_rfl) rfl hs (Y_move rfl ?_)
        refine A_take 25 rfl (by kernel_rfl) rfl hs (Y_move rfl ?_)
        refine A_take 26 rfl (by kernel_rfl) rfl hs (Y_move rfl ?_)
        refine A_skip 27 rfl (by kernel_rfl) rfl hs ?_
        refine A_skip 28 rfl (by kernel_rfl) rfl hs ?_
        refine A_skip 29 rfl (by kernel_rfl) rfl hs ?_
        refine A_skip 30 rfl (by kernel_rfl) rfl hs ?_
        refine A_skip 31 rfl (by kernel_rfl) rfl hs ?_
        refine A_skip 32 rfl (by kernel_rfl) rfl hs ?_
        refine A_skip 33 rfl (by kernel_rfl) rfl hs ?_
        refine A_skip 34 rfl (by kernel_rfl) rfl hs ?_
        refine A_skip 35 rfl (by kernel_rfl) rfl hs ?_
        refine A_skip 36 rfl (by kernel_rfl) rfl hs ?_
        refine A_skip 37 rfl (by kernel_rfl) rfl hs ?_
        refine A_skip 38 rfl (by kernel_rfl) rfl hs ?_
        refine A_skip 39 rfl (by kernel_rfl) rfl hs ?_
        refine A_skip 40 rfl (by kernel_rfl) rfl hs ?_
        refine A_skip 41 rfl (by kernel_rfl) rfl hs ?_
        refine A_skip 42 rfl (by kernel_rfl) rfl hs ?_
        refine A_skip 43 rfl (by kernel_rfl) rfl hs ?_
        refine A_skip 44 rfl (by kernel_rfl) rfl hs ?_
        refine A_skip 45 rfl (by kernel_rfl) rfl hs ?_
        refine A_skip 46 rfl (by kernel_rfl) rfl hs ?_
        refine A_skip 47 rfl (by kernel_rfl) rfl hs ?_
        refine A_skip 48 rfl (by kernel_rfl) rfl hs ?_
        refine A_take 49 rfl (by kernel_rfl) rfl hs (Y_pickF rfl rfl ?_)
        refine A_take 50 rfl (by kernel_rfl) rfl hs (Y_pickF rfl rfl ?_)
        refine A_done (by kernel_rfl) (T_sub [(0, _), (3, _), (4, _), (5, _), (6, _), (8, _), (10, _), (137, _)] ⟨rfl, rfl, rfl, rfl, rfl, rfl, rfl, rfl, trivial⟩ ?_)
        refine T_condF rfl (T_skip ?_)
        refine T_region rfl ?_
        refine O_y hs (Y_move rfl ?_)
        refine O_y hs (Y_add (c := ((k + 1 : Nat) : Int)) rfl rfl (by omega) (by omega) ?_)
        refine O_y hs (Y_assign rfl ?_)
        refine O_nil ⟨_, ?_, [(0, _), (3, _), (4, _), (5, _), (6, _), (8, _), (10, _)], ⟨rfl, rfl, rfl, rfl, rfl, rfl, rfl, trivial⟩, ⟨k + 1, _, by omega, rfl, hx, hy, rfl, hs⟩⟩
        omega
  · -- h58: False
    dsimp only [cmpP] at h58
    refine O_nil (T_sub [(0, _), (3, _), (4, _), (5, _), (6, _), (8, _), (10, _), (58, _)] ⟨rfl, rfl, rfl, rfl, rfl, rfl, rfl, rfl, trivial⟩ ?_)
    refine T_condF rfl (T_exit ?_)
    refine T_seq (T_region rfl ?_)
    refine O_y hs (Y_ldA 1 Tryd.isAgg25 Tryd.sizeOf25 rfl rfl (vs := [_, _, _]) rfl rfl ?_)
    refine O_y hs (Y_move rfl ?_)
    refine O_s (S_call (H1 := []) hs rfl Tryd.func7 rfl (by kernel_rfl) (do_eq (o := ⟨1, [], []⟩) (some ((b.map lowerF).map lowerF)) (do1 _) ⟨_, _, rfl, Sl.nil _ _, Sl.nil _ _⟩ hx (by rw [List.length_map]; omega) hm) fun v4 G' H' _ hR hG141 hs => ?_)
    obtain ⟨rfl, u141, rfl, hxx⟩ := hR
    replace hs : St _ _ [_, _] _ := hs
    replace hb := hb.mono hG141
    replace hT := hT.mono hG141
    replace hm := hm.mono hG141
    replace hx := hx.mono hG141
    replace hy := hy.mono hG141
    replace hxx : Bytes _ _ ((b.map lowerF).map lowerF) := hxx
    obtain ⟨A141, c141, rfl, _⟩ := id hxx
    refine O_y hs (Y_move rfl ?_)
    refine O_y hs (Y_extract rfl rfl ?_)
    refine O_y hs (Y_extract rfl rfl ?_)
    refine O_y hs (Y_assign rfl ?_)
    refine O_y hs (Y_assign rfl ?_)
    refine O_nil (T_sub [(3, _), (4, _), (5, _), (6, _), (8, _), (12, _)] ⟨rfl, rfl, rfl, rfl, rfl, rfl, trivial⟩ ?_)
    refine T_seq (T_region rfl ?_)
    refine O_y hs (Y_ldA 0 Tryd.isAgg25 Tryd.sizeOf25 rfl rfl (vs := [_, _, _]) rfl rfl ?_)
    refine O_y hs (Y_move rfl ?_)
    refine O_s (S_call (H1 := []) hs rfl Tryd.func7 rfl (by kernel_rfl) (do_eq (o := ⟨2, [], []⟩) (some ((b.map upperF).map upperF)) (do2 _) ⟨_, _, rfl, Sl.nil _ _, Sl.nil _ _⟩ hy (by rw [List.length_map]; omega) hm) fun v5 G' H' _ hR hG147 hs => ?_)
    obtain ⟨rfl, u147, rfl, hyy⟩ := hR
    replace hs : St _ _ [_, _] _ := hs
    replace hb := hb.mono hG147
    replace hT := hT.mono hG147
    replace hm := hm.mono hG147
    replace hx := hx.mono hG147
    replace hy := hy.mono hG147
    replace hxx := hxx.mono hG147
    replace hyy : Bytes _ _ ((b.map upperF).map upperF) := hyy
    obtain ⟨A147, c147, rfl, _⟩ := id hyy
    refine O_y hs (Y_move rfl ?_)
    refine O_y hs (Y_extract rfl rfl ?_)
    refine O_y hs (Y_extract rfl rfl ?_)
    refine O_y hs (Y_assign rfl ?_)
    refine O_y hs (Y_assign rfl ?_)
    refine O_nil (T_sub [(3, _), (4, _), (5, _), (6, _), (8, _), (12, _), (14, _)] ⟨rfl, rfl, rfl, rfl, rfl, rfl, rfl, trivial⟩ ?_)
    refine T_seq (T_region rfl ?_)
    refine O_y hs (Y_ldA 1 Tryd.isAgg25 Tryd.sizeOf25 rfl rfl (vs := [_, _, _]) rfl rfl ?_)
    refine O_y hs (Y_move rfl ?_)
    refine O_s (S_call (H1 := []) hs rfl Tryd.func7 rfl (by kernel_rfl) (do_eq (o := ⟨1, [], []⟩) (some ((b.map upperF).map lowerF)) (do1 _) ⟨_, _, rfl, Sl.nil _ _, Sl.nil _ _⟩ hy (by rw [List.length_map]; omega) hm) fun v6 G' H' _ hR hG153 hs => ?_)
    obtain ⟨rfl, u153, rfl, hxy⟩ := hR
    replace hs : St _ _ [_, _] _ := hs
    replace hb := hb.mono hG153
    replace hT := hT.mono hG153
    replace hm := hm.mono hG153
    replace hx := hx.mono hG153
    replace hy := hy.mono hG153
    replace hxx := hxx.mono hG153
    replace hyy := hyy.mono hG153
    replace hxy : Bytes _ _ ((b.map upperF).map lowerF) := hxy
    obtain ⟨A153, c153, rfl, _⟩ := id hxy
    refine O_y hs (Y_move rfl ?_)
    refine O_y hs (Y_extract rfl rfl ?_)
    refine O_y hs (Y_extract rfl rfl ?_)
    refine O_y hs (Y_assign rfl ?_)
    refine O_y hs (Y_assign rfl ?_)
    refine O_nil (T_sub [(3, _), (5, _), (6, _), (8, _), (12, _), (14, _), (16, _)] ⟨rfl, rfl, rfl, rfl, rfl, rfl, rfl, trivial⟩ ?_)
    refine T_seq (T_region rfl ?_)
    refine O_y hs (Y_ldA 0 Tryd.isAgg25 Tryd.sizeOf25 rfl rfl (vs := [_, _, _]) rfl rfl ?_)
    refine O_y hs (Y_move rfl ?_)
    refine O_s (S_call (H1 := []) hs rfl Tryd.func7 rfl (by kernel_rfl) (do_eq (o := ⟨2, [], []⟩) (some ((b.map lowerF).map upperF)) (do2 _) ⟨_, _, rfl, Sl.nil _ _, Sl.nil _ _⟩ hx (by rw [List.length_map]; omega) hm) fun v7 G' H' _ hR hG159 hs => ?_)
    obtain ⟨rfl, u159, rfl, hyx⟩ := hR
    replace hs : St _ _ [_, _] _ := hs
    replace hb := hb.mono hG159
    replace hT := hT.mono hG159
    replace hm := hm.mono hG159
    replace hx := hx.mono hG159
    replace hy := hy.mono hG159
    replace hxx := hxx.mono hG159
    replace hyy := hyy.mono hG159
    replace hxy := hxy.mono hG159
    replace hyx : Bytes _ _ ((b.map lowerF).map upperF) := hyx
    obtain ⟨A159, c159, rfl, _⟩ := id hyx
    refine O_y hs (Y_move rfl ?_)
    refine O_y hs (Y_extract rfl rfl ?_)
    refine O_y hs (Y_extract rfl rfl ?_)
    refine O_y hs (Y_assign rfl ?_)
    refine O_y hs (Y_assign rfl ?_)
    refine O_nil (T_sub [(3, _), (6, _), (8, _), (12, _), (14, _), (16, _), (18, _)] ⟨rfl, rfl, rfl, rfl, rfl, rfl, rfl, trivial⟩ ?_)
    refine T_seq (T_region rfl ?_)
    refine O_y hs (Y_move rfl ?_)
    refine O_y hs (Y_move rfl ?_)
    refine O_yy 163 hs rfl rfl (Y_move rfl ?_)
    refine O_yy 163 hs rfl rfl (Y_move rfl ?_)
    refine O_yes 163 rfl rfl (S_call (H1 := []) hs rfl Tryd.func8 rfl (by kernel_rfl) (same_ok hxx hx) fun v8 G' H' _ hR hG166 hs => ?_)
    obtain ⟨rfl, rfl⟩ := hR
    replace hs : St _ _ [_, _] _ := hs
    replace hb := hb.mono hG166
    replace hT := hT.mono hG166
    replace hm := hm.mono hG166
    replace hx := hx.mono hG166
    replace hy := hy.mono hG166
    replace hxx := hxx.mono hG166
    replace hyy := hyy.mono hG166
    replace hxy := hxy.mono hG166
    replace hyx := hyx.mono hG166
    rw [decide_eq_true (show _ = _ from by simp [Function.comp_def, lower_lower])]
    refine O_y hs (Y_pickT rfl rfl ?_)
    refine O_y hs (Y_move rfl ?_)
    refine O_yy 168 hs rfl rfl (Y_move rfl ?_)
    refine O_yy 168 hs rfl rfl (Y_move rfl ?_)
    refine O_yes 168 rfl rfl (S_call (H1 := []) hs rfl Tryd.func8 rfl (by kernel_rfl) (same_ok hyy hy) fun v9 G' H' _ hR hG171 hs => ?_)
    obtain ⟨rfl, rfl⟩ := hR
    replace hs : St _ _ [_, _] _ := hs
    replace hb := hb.mono hG171
    replace hT := hT.mono hG171
    replace hm := hm.mono hG171
    replace hx := hx.mono hG171
    replace hy := hy.mono hG171
    replace hxx := hxx.mono hG171
    replace hyy := hyy.mono hG171
    replace hxy := hxy.mono hG171
    replace hyx := hyx.mono hG171
    rw [decide_eq_true (show _ = _ from by simp [Function.comp_def, upper_upper])]
    refine O_y hs (Y_pickT rfl rfl ?_)
    refine O_y hs (Y_move rfl ?_)
    refine O_yy 173 hs rfl rfl (Y_move rfl ?_)
    refine O_yy 173 hs rfl rfl (Y_move rfl ?_)
    refine O_yes 173 rfl rfl (S_call (H1 := []) hs rfl Tryd.func8 rfl (by kernel_rfl) (same_ok hxy hx) fun v10 G' H' _ hR hG176 hs => ?_)
    obtain ⟨rfl, rfl⟩ := hR
    replace hs : St _ _ [_, _] _ := hs
    replace hb := hb.mono hG176
    replace hT := hT.mono hG176
    replace hm := hm.mono hG176
    replace hx := hx.mono hG176
    replace hy := hy.mono hG176
    replace hxx := hxx.mono hG176
    replace hyy := hyy.mono hG176
    replace hxy := hxy.mono hG176
    replace hyx := hyx.mono hG176
    rw [decide_eq_true (show _ = _ from by simp [Function.comp_def, lower_upper])]
    refine O_y hs (Y_pickT rfl rfl ?_)
    refine O_y hs (Y_move rfl ?_)
    refine O_yy 178 hs rfl rfl (Y_move rfl ?_)
    refine O_yy 178 hs rfl rfl (Y_move rfl ?_)
    refine O_yes 178 rfl rfl (S_call (H1 := []) hs rfl Tryd.func8 rfl (by kernel_rfl) (same_ok hyx hy) fun v11 G' H' _ hR hG181 hs => ?_)
    obtain ⟨rfl, rfl⟩ := hR
    replace hs : St _ _ [_, _] _ := hs
    replace hb := hb.mono hG181
    replace hT := hT.mono hG181
    replace hm := hm.mono hG181
    replace hx := hx.mono hG181
    replace hy := hy.mono hG181
    replace hxx := hxx.mono hG181
    replace hyy := hyy.mono hG181
    replace hxy := hxy.mono hG181
    replace hyx := hyx.mono hG181
    rw [decide_eq_true (show _ = _ from by simp [Function.comp_def, upper_lower])]
    refine O_y hs (Y_pickT rfl rfl ?_)
    refine O_y hs (Y_assign rfl ?_)
    refine O_nil (T_sub [(2, _)] ⟨rfl, trivial⟩ ?_)
    refine T_ret ?_
    refine Rt_fin (vs := [_]) Tryd.results3 rfl ⟨rfl, trivial⟩ ?_
    try dsimp only [tup]
    exact ⟨_, [], hs.done, rfl, rfl⟩

end Go.Proofs.YtffbfibpfnlfeaaDoor
