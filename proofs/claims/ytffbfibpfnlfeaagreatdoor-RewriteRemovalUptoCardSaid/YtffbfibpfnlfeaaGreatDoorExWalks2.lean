import Derived.Test.YtffbfibpfnlfeaaGreatDoorExWalks1
import Derived.Test.YtffbfibpfnlfeaaGreatDoorProg
import Derived.Test.YtffbfibpfnlfeaaGreatDoorPlain
import Derived.Test.YtffbfibpfnlfeaaGreatDoorShelf
namespace Go.Proofs.YtffbfibpfnlfeaaGreatDoor
open Go Go.Ex Go.RowKit
theorem FO43_0 : fieldOff Tryz.prog 43 0 = some 0 := by kernel_rfl
theorem FO43_1 : fieldOff Tryz.prog 43 1 = some 1 := by kernel_rfl
theorem FO43_2 : fieldOff Tryz.prog 43 2 = some 2 := by kernel_rfl
theorem FO43_3 : fieldOff Tryz.prog 43 3 = some 3 := by kernel_rfl
theorem FO81_0 : fieldOff Tryz.prog 81 0 = some 0 := by kernel_rfl
theorem FO81_1 : fieldOff Tryz.prog 81 1 = some 1 := by kernel_rfl
theorem FO84_0 : fieldOff Tryz.prog 84 0 = some 0 := by kernel_rfl
theorem FO84_1 : fieldOff Tryz.prog 84 1 = some 1 := by kernel_rfl

set_option maxHeartbeats 400000 in
set_option maxRecDepth 10000 in
theorem tz_ok {G : Ghost} {x : Nat} (hT : Tab G) :
    FnOk Tryz.prog 111 [u64V x] G [] fun r _ H' => H' = [] ∧ r = .int .i64 ((tzF x : Nat) : Int) := by
  refine FnOk.of_T [(0, _)] Tryz.func111 rfl Tryz.ntmps111 (by simp) rfl fun w0 hs => ?_
  have hT0 := hT
  refine T_seq (T_region rfl ?_)
  refine O_y hs (Y_assign rfl ?_)
  refine O_nil (T_sub [(0, _)] ⟨rfl, trivial⟩ ?_)
  refine T_seq (T_seq (T_region rfl ?_))
  refine O_y hs (Y_move rfl ?_)
  refine O_y hs (Y_cmpS rfl rfl rfl (fun h4 => ?_) (fun h4 => ?_))
  · -- h4: True
    dsimp only [cmpP] at h4
    refine O_nil (T_sub [(0, _), (4, _)] ⟨rfl, rfl, trivial⟩ ?_)
    refine T_condT rfl (T_seq (T_region rfl ?_))
    refine O_y hs (Y_assign rfl ?_)
    refine O_nil (T_sub [(2, _)] ⟨rfl, trivial⟩ ?_)
    refine T_ret ?_
    refine Rt_fin (vs := [_]) Tryz.results111 rfl ⟨rfl, trivial⟩ ?_
    try dsimp only [tup]
    exact ⟨_, [], hs.done, rfl, congrArg (Value.int .i64) (by unfold tzF; rw [if_pos (by omega)]; rfl)⟩
  · -- h4: False
    dsimp only [cmpP] at h4
    refine O_nil (T_sub [(0, _), (4, _)] ⟨rfl, rfl, trivial⟩ ?_)
    refine T_condF rfl (T_skip ?_)
    refine T_seq (T_region rfl ?_)
    refine O_y hs (Y_move rfl ?_)
    refine O_y hs (Y_move rfl ?_)
    refine O_y hs (Y_neg64 rfl ?_)
    refine O_y hs (Y_and64 rfl rfl ?_)
    refine O_y hs (Y_mul64 (b := 285870213051353865) rfl rfl ?_)
    refine O_y hs (Y_shr64 58 (by decide) rfl rfl ?_)
    refine O_y hs (Y_idxArr' (tzI x) Tryz.underlying145 Tryz.sizeOf5 rfl rfl rfl (tzI_lt x) ?_)
    refine O_y hs (Y_ldG Tryz.isAgg5 rfl (hT _ (tzI_lt x)) ?_)
    refine O_y hs (Y_conv Tryz.underlying5 Tryz.underlying3 (c := ((tab64.getD (tzI x) 0 : Nat) : Int)) rfl (wrap64_eq (by have := tab_le (tzI x); omega)) ?_)
    refine O_y hs (Y_assign rfl ?_)
    refine O_nil (T_sub [(2, _)] ⟨rfl, trivial⟩ ?_)
    refine T_ret ?_
    refine Rt_fin (vs := [_]) Tryz.results111 rfl ⟨rfl, trivial⟩ ?_
    try dsimp only [tup]
    exact ⟨_, [], hs.done, rfl, congrArg (Value.int .i64) (by unfold tzF; rw [if_neg (by omega)])⟩

set_option maxHeartbeats 400000 in
set_option maxRecDepth 10000 in
theorem pop_ok {G : Ghost} {x : Nat} :
    FnOk Tryz.prog 91 [u64V x] G [] fun r _ H' => H' = [] ∧ r = .int .i64 ((popF x : Nat) : Int) := by
  refine FnOk.of_T [(0, _)] Tryz.func91 rfl Tryz.ntmps91 (by simp) rfl fun w0 hs => ?_
  refine T_seq (T_region rfl ?_)
  refine O_y hs (Y_assign rfl ?_)
  refine O_nil (T_sub [(0, _)] ⟨rfl, trivial⟩ ?_)
  refine T_seq (T_region rfl ?_)
  refine O_y hs (Y_move rfl ?_)
  refine O_y hs (Y_shr64 1 (by decide) rfl rfl ?_)
  refine O_y hs (Y_and64 (b := 6148914691236517205) rfl rfl ?_)
  refine O_y hs (Y_move rfl ?_)
  refine O_y hs (Y_and64 (b := 6148914691236517205) rfl rfl ?_)
  refine O_y hs (Y_add64 rfl rfl ?_)
  refine O_y hs (Y_assign rfl ?_)
  refine O_nil (T_sub [(0, _)] ⟨rfl, trivial⟩ ?_)
  refine T_seq (T_region rfl ?_)
  refine O_y hs (Y_move rfl ?_)
  refine O_y hs (Y_shr64 2 (by decide) rfl rfl ?_)
  refine O_y hs (Y_and64 (b := 3689348814741910323) rfl rfl ?_)
  refine O_y hs (Y_move rfl ?_)
  refine O_y hs (Y_and64 (b := 3689348814741910323) rfl rfl ?_)
  refine O_y hs (Y_add64 rfl rfl ?_)
  refine O_y hs (Y_assign rfl ?_)
  refine O_nil (T_sub [(0, _)] ⟨rfl, trivial⟩ ?_)
  refine T_seq (T_region rfl ?_)
  refine O_y hs (Y_move rfl ?_)
  refine O_y hs (Y_shr64 4 (by decide) rfl rfl ?_)
  refine O_y hs (Y_move rfl ?_)
  refine O_y hs (Y_add64 rfl rfl ?_)
  refine O_y hs (Y_and64 (b := 1085102592571150095) rfl rfl ?_)
  refine O_y hs (Y_assign rfl ?_)
  refine O_nil (T_sub [(0, _)] ⟨rfl, trivial⟩ ?_)
  refine T_seq (T_region rfl ?_)
  refine O_y hs (Y_move rfl ?_)
  refine O_y hs (Y_move rfl ?_)
  refine O_y hs (Y_shr64 8 (by decide) rfl rfl ?_)
  refine O_y hs (Y_add64 rfl rfl ?_)
  refine O_y hs (Y_assign rfl ?_)
  refine O_nil (T_sub [(0, _)] ⟨rfl, trivial⟩ ?_)
  refine T_seq (T_region rfl ?_)
  refine O_y hs (Y_move rfl ?_)
  refine O_y hs (Y_move rfl ?_)
  refine O_y hs (Y_shr64 16 (by decide) rfl rfl ?_)
  refine O_y hs (Y_add64 rfl rfl ?_)
  refine O_y hs (Y_assign rfl ?_)
  refine O_nil (T_sub [(0, _)] ⟨rfl, trivial⟩ ?_)
  refine T_seq (T_region rfl ?_)
  refine O_y hs (Y_move rfl ?_)
  refine O_y hs (Y_move rfl ?_)
  refine O_y hs (Y_shr64 32 (by decide) rfl rfl ?_)
  refine O_y hs (Y_add64 rfl rfl ?_)
  refine O_y hs (Y_assign rfl ?_)
  refine O_nil (T_sub [(0, _)] ⟨rfl, trivial⟩ ?_)
  refine T_seq (T_region rfl ?_)
  refine O_y hs (Y_move rfl ?_)
  refine O_y hs (Y_conv Tryz.underlying25 Tryz.underlying3 (c := ((pop6 x : Nat) : Int)) rfl (wrap64_eq (by have := pop6_lt x; exact ⟨by omega, by show (pop6 x : Int) ≤ _; omega⟩)) ?_)
  refine O_y hs (Y_bits rfl rfl (by simp) (and127 (pop6 x)) ?_)
  refine O_y hs (Y_assign rfl ?_)
  refine O_nil (T_sub [(2, _)] ⟨rfl, trivial⟩ ?_)
  refine T_ret ?_
  refine Rt_fin (vs := [_]) Tryz.results91 rfl ⟨rfl, trivial⟩ ?_
  try dsimp only [tup]
  exact ⟨_, [], hs.done, rfl, rfl⟩

set_option maxHeartbeats 400000 in
set_option maxRecDepth 10000 in
theorem size_ok {G : Ghost} {c : List Nat} (hc : c.length = 4) :
    FnOk Tryz.prog 76 [ClsV c] G [] fun r _ H' => H' = [] ∧ r = .int .i64 ((sizeF c : Nat) : Int) := by
  refine FnOk.of_T [(0, _)] Tryz.func76 rfl Tryz.ntmps76 (by simp) rfl fun w0 hs => ?_
  refine T_seq (T_region rfl ?_)
  refine O_s (S_box hs rfl (cs := (List.map u64V c)) rfl fun b1 _ hs => ?_)
  refine O_y hs (Y_assign rfl ?_)
  refine O_nil (T_sub [(1, _)] ⟨rfl, trivial⟩ ?_)
  refine T_seq (T_region rfl ?_)
  refine O_y hs (Y_assign rfl ?_)
  refine O_nil (T_sub [(1, _), (3, _)] ⟨rfl, rfl, trivial⟩ ?_)
  refine T_seq (T_seq (T_region rfl ?_))
  refine O_y hs (Y_ldW 0 Tryz.isAgg27 Tryz.sizeOf27 rfl rfl (by first | omega | (simp; omega) | simp) ?_)
  refine O_y hs (Y_move rfl ?_)
  refine O_nil (T_sub [(3, _), (6, _), (7, _)] ⟨rfl, rfl, rfl, trivial⟩ ?_)
  refine T_block (T_loop (fun m E w => ∃ (k : Nat) (G' : Ghost), k ≤ 4 ∧ m = 4 - k ∧ E = ⟨[], [(3, .int .i64 ((sizeF (c.take k) : Nat) : Int)), (6, (ClsV c)), (7, .int .i64 (k : Int))]⟩ ∧ St ⟨w0, G, feet []⟩ G' [.blk b1 27 (List.map u64V c)] w) (L := [(3, _), (6, _), (7, _)]) ⟨rfl, rfl, rfl, trivial⟩ (⟨0, _, by omega, rfl, rfl, hs⟩) fun m E w hI => ?_)
  obtain ⟨k, G', hk, rfl, rfl, hs⟩ := hI
  refine T_seq (T_region rfl ?_)
  refine O_y hs (Y_cmpS rfl rfl rfl (fun h8 => ?_) (fun h8 => ?_))
  · -- h8: True
    dsimp only [cmpP] at h8
    refine O_nil (T_sub [(3, _), (6, _), (7, _), (8, _)] ⟨rfl, rfl, rfl, rfl, trivial⟩ ?_)
    refine T_seq (T_condT rfl (T_skip ?_))
    refine T_seq (T_block (T_seq (T_region rfl ?_)))
    refine O_y hs (Y_indexV (vs := List.map u64V c) (v := u64V c[k]) k Tryz.underlying27 Tryz.isAgg25 Tryz.sizeOf25 rfl rfl rfl (by omega) (by rw [List.getElem?_map, List.getElem?_eq_getElem (by omega)]; rfl) ?_)
    refine O_y hs (Y_assign rfl ?_)
    refine O_nil (T_sub [(3, _), (5, _), (6, _), (7, _)] ⟨rfl, rfl, rfl, rfl, trivial⟩ ?_)
    refine T_region rfl ?_
    refine O_y hs (Y_move rfl ?_)
    refine O_y hs (Y_move rfl ?_)
    refine O_s (S_call (H1 := []) hs rfl Tryz.func91 rfl (by kernel_rfl) (pop_ok) fun v1 G' H' _ hR hG12 hs => ?_)
    obtain ⟨rfl, rfl⟩ := hR
    replace hs : St _ _ [_] _ := hs
    refine O_y hs (Y_add (c := ((sizeF (c.take k) + popF c[k] : Nat) : Int)) rfl rfl (by omega) (by have h1 := sizeF_le (c.take k); have := popF_le c[k]; rw [List.length_take] at h1; omega) ?_)
    refine O_y hs (Y_assign rfl ?_)
    refine O_nil (T_sub [(3, _), (6, _), (7, _)] ⟨rfl, rfl, rfl, trivial⟩ ?_)
    refine T_region rfl ?_
    refine O_y hs (Y_add (c := ((k + 1 : Nat) : Int)) rfl rfl (by omega) (by omega) ?_)
    refine O_y hs (Y_move rfl ?_)
    refine O_nil ⟨_, ?_, [(3, _), (6, _), (7, _)], ⟨rfl, rfl, rfl, trivial⟩, ⟨k + 1, _, by omega, rfl, by rw [sizeF_snoc c k (by omega)], hs⟩⟩
    omega
  · -- h8: False
    dsimp only [cmpP] at h8
    refine O_nil (T_sub [(3, _), (6, _), (7, _), (8, _)] ⟨rfl, rfl, rfl, rfl, trivial⟩ ?_)
    refine T_seq (T_condF rfl (T_exit ?_))
    refine T_seq (T_region rfl ?_)
    refine O_y hs (Y_move rfl ?_)
    refine O_y hs (Y_assign rfl ?_)
    refine O_nil (T_sub [(2, _)] ⟨rfl, trivial⟩ ?_)
    refine T_ret ?_
    refine Rt_fin (vs := [_]) Tryz.results76 rfl ⟨rfl, trivial⟩ ?_
    try dsimp only [tup]
    obtain rfl : k = 4 := by omega
    exact ⟨_, [], hs.done, rfl, by rw [List.take_of_length_le (by omega)]⟩

set_option maxHeartbeats 400000 in
set_option maxRecDepth 10000 in
theorem add_ok {G : Ghost} {p : Nat} {c : List Nat} {x : UInt8} (hc : c.length = 4) :
    FnOk Tryz.prog 88 [.pointer (some ⟨p, 0, none⟩), .int .u8 (x.toNat : Int)] G [.blk p 27 (c.map u64V)] fun _ _ H' => H' = [.blk p 27 ((addF c x).map u64V)] := by
  have hx := x.toNat_lt
  have hcell : (c.map u64V)[x.toNat / 64]? = some (u64V (c.getD (x.toNat / 64) 0)) := by rw [List.getElem?_map, List.getElem?_eq_getElem (by omega), List.getD_eq_getElem?_getD, List.getElem?_eq_getElem (by omega)]; rfl
  refine FnOk.of_T [(0, _), (1, _)] Tryz.func88 rfl Tryz.ntmps88 (by simp) rfl fun w0 hs => ?_
  refine T_drawS [0, 1, 2, 3, 4, 5, 6, 7, 8, 9, 10, 11] hs (by kernel_rfl) ?_
  replace hs := hs.drew
  refine A_take 0 rfl (by kernel_rfl) rfl hs (Y_move rfl ?_)
  refine A_take 1 rfl (by kernel_rfl) rfl hs (Y_move rfl ?_)
  refine A_take 2 rfl (by kernel_rfl) rfl hs (Y_quoU (c := ((x.toNat / 64 : Nat) : Int)) rfl rfl (by omega) (by omega) (by omega) ?_)
  refine A_take 3 rfl (by kernel_rfl) rfl hs (Y_nil rfl ?_)
  refine A_take 4 rfl (by kernel_rfl) rfl hs (Y_idxArr' (x.toNat / 64) Tryz.underlying27 Tryz.sizeOf25 rfl rfl rfl (by omega) ?_)
  refine A_take 5 rfl (by kernel_rfl) rfl hs (Y_ld 0 Tryz.isAgg25 rfl rfl hcell ?_)
  refine A_take 6 rfl (by kernel_rfl) rfl hs (Y_move rfl ?_)
  refine A_take 7 rfl (by kernel_rfl) rfl hs (Y_rem (c := ((x.toNat % 64 : Nat) : Int)) rfl rfl (by omega) (by omega) (by omega) ?_)
  refine A_take 8 rfl (by kernel_rfl) rfl hs (Y_shl1 (x.toNat % 64) (by omega) rfl rfl ?_)
  refine A_take 9 rfl (by kernel_rfl) rfl hs (Y_or64 rfl rfl ?_)
  refine A_take 10 rfl (by kernel_rfl) rfl hs (Y_nil rfl ?_)
  refine A_take 11 rfl (by kernel_rfl) rfl hs (Y_idxArr' (x.toNat / 64) Tryz.underlying27 Tryz.sizeOf25 rfl rfl rfl (by omega) ?_)
  refine A_tailN 12 rfl (by kernel_rfl) (by kernel_rfl) rfl (S_st hs Tryz.sizeOf25 rfl rfl rfl (by rw [List.length_map]; omega) (cs' := (addF c x).map u64V) (by unfold addF; rw [List.map_set]) fun _ hs => ?_)
  refine A_done (by kernel_rfl) (Rt_finN (vs := []) Tryz.results88 rfl trivial ?_)
  try dsimp only [tup]
  exact ⟨_, _, hs, rfl⟩

set_option maxHeartbeats 400000 in
set_option maxRecDepth 10000 in
theorem of_ok {G : Ghost} {v : Value} {l : List UInt8} (hb : Bytes G v l) (hl : l.length ≤ 1000000000) :
    FnOk Tryz.prog 69 [v] G [] fun r _ H' => H' = [] ∧ r = ClsV (ofF l) := by
  obtain ⟨A, cap, rfl, _⟩ := id hb
  refine FnOk.of_T [(0, _)] Tryz.func69 rfl Tryz.ntmps69 (by simp) rfl fun w0 hs => ?_
  have hb0 := hb
  refine T_seq (T_region rfl ?_)
  refine O_s (S_alloc hs Tryz.zeroValue27 (cs := (List.map u64V [0, 0, 0, 0])) rfl fun b2 _ hs => ?_)
  refine O_nil (T_sub [(0, _), (2, _)] ⟨rfl, rfl, trivial⟩ ?_)
  refine T_seq (T_region rfl ?_)
  refine O_s (S_alloc hs Tryz.zeroValue27 (cs := (List.map u64V [0, 0, 0, 0])) rfl fun b3 _ hs => ?_)
  refine O_nil (T_sub [(0, _), (2, _), (3, _)] ⟨rfl, rfl, rfl, trivial⟩ ?_)
  refine T_seq (T_seq (T_region rfl ?_))
  refine O_y hs (Y_move rfl ?_)
  refine O_y hs (Y_len Tryz.underlying22 rfl ?_)
  refine O_y hs (Y_move rfl ?_)
  refine O_nil (T_sub [(2, _), (3, _), (6, _), (7, _), (8, _)] ⟨rfl, rfl, rfl, rfl, rfl, trivial⟩ ?_)
  refine T_block (T_loop (fun m E w => ∃ (k : Nat) (G' : Ghost), k ≤ l.length ∧ m = l.length - k ∧ E = ⟨[], [(2, .pointer (some ⟨b2, 0, none⟩)), (3, .pointer (some ⟨b3, 0, none⟩)), (6, (.slice A l.length cap)), (7, .int .i64 ((l.length : Nat) : Int)), (8, .int .i64 (k : Int))]⟩ ∧ St ⟨w0, G, feet []⟩ G' [.blk b3 27 (List.map u64V (ofF (l.take k))), .blk b2 27 (List.map u64V [0, 0, 0, 0])] w) (L := [(2, _), (3, _), (6, _), (7, _), (8, _)]) ⟨rfl, rfl, rfl, rfl, rfl, trivial⟩ (⟨0, _, by omega, rfl, rfl, hs⟩) fun m E w hI => ?_)
  obtain ⟨k, G', hk, rfl, rfl, hs⟩ := hI
  have hb := hb0.mono hs.le
  have h4 := ofF_len (l.take k)
  refine T_seq (T_region rfl ?_)
  refine O_y hs (Y_cmpS rfl rfl rfl (fun h9 => ?_) (fun h9 => ?_))
  · -- h9: True
    dsimp only [cmpP] at h9
    refine O_nil (T_sub [(2, _), (3, _), (6, _), (7, _), (8, _), (9, _)] ⟨rfl, rfl, rfl, rfl, rfl, rfl, trivial⟩ ?_)
    refine T_seq (T_condT rfl (T_skip ?_))
    refine T_seq (T_block (T_seq (T_region rfl ?_)))
    refine O_y hs (Y_idxB hb k Tryz.underlying22 Tryz.sizeOf5 rfl rfl rfl (by omega) fun p10 hp10 => ?_)
    refine O_y hs (Y_ldG Tryz.isAgg5 rfl (hp10) ?_)
    refine O_y hs (Y_assign rfl ?_)
    refine O_nil (T_sub [(2, _), (3, _), (5, _), (6, _), (7, _), (8, _)] ⟨rfl, rfl, rfl, rfl, rfl, rfl, trivial⟩ ?_)
    refine T_region rfl ?_
    refine O_y hs (Y_move rfl ?_)
    refine O_s (S_call (H1 := [_]) hs rfl Tryz.func88 rfl (by kernel_rfl) (add_ok (x := l[k]) (ofF_len _)) fun v1 G' H' _ hR hG13 hs => ?_)
    obtain rfl := hR
    replace hs : St _ _ [_, _] _ := hs
    replace hb := hb.mono hG13
    refine O_nil (T_sub [(2, _), (3, _), (6, _), (7, _), (8, _)] ⟨rfl, rfl, rfl, rfl, rfl, trivial⟩ ?_)
    refine T_region rfl ?_
    refine O_y hs (Y_add (c := ((k + 1 : Nat) : Int)) rfl rfl (by omega) (by omega) ?_)
    refine O_y hs (Y_move rfl ?_)
    refine O_nil ⟨_, ?_, [(2, _), (3, _), (6, _), (7, _), (8, _)], ⟨rfl, rfl, rfl, rfl, rfl, trivial⟩, ⟨k + 1, _, by omega, rfl, rfl, by unfold ofF; rw [foldl_take_succ _ _ l k (by omega)]; exact hs⟩⟩
    omega
  · -- h9: False
    dsimp only [cmpP] at h9
    refine O_nil (T_sub [(2, _), (3, _), (6, _), (7, _), (8, _), (9, _)] ⟨rfl, rfl, rfl, rfl, rfl, rfl, trivial⟩ ?_)
    refine T_seq (T_condF rfl (T_exit ?_))
    refine T_seq (T_region rfl ?_)
    refine O_y hs (Y_ldW 0 Tryz.isAgg27 Tryz.sizeOf27 rfl rfl (by first | omega | (simp; omega) | simp) ?_)
    have hs := hs.front 1 rfl (H' := [_, _]) rfl
    refine O_n (S_stW hs Tryz.sizeOf27 rfl rfl (vs := (List.map u64V (ofF (l.take k)))) (by first | omega | (simp; omega) | simp) (by first | omega | (simp; omega) | simp) (u64_all _) fun _ hs => ?_)
    refine O_nil (T_sub [(2, _)] ⟨rfl, trivial⟩ ?_)
    refine T_ret ?_
    have hr := hs
    refine Rt_fin (vs := [_]) Tryz.results69 rfl ⟨ResOk_blk 0 hr Tryz.isAgg27 Tryz.sizeOf27 rfl (cs := (List.map u64V (ofF (l.take k)))) rfl (by first | omega | (simp; omega) | simp), trivial⟩ ?_
    try dsimp only [tup]
    obtain rfl : k = l.length := by omega
    exact ⟨_, [], hs.done, rfl, by rw [List.take_length]; rfl⟩

set_option maxHeartbeats 400000 in
set_option maxRecDepth 10000 in
theorem comb_ok {G : Ghost} {a b : List Nat} {gf : Nat} {fnn : Func} {op : Nat → Nat → Nat} (ha : a.length = 4) (hb : b.length = 4) (hfn : Tryz.prog.funcs[gf]? = some fnn) (hbd : fnn.body.isSome = true) (hnm : (fnn.name == "runtime.NumGoroutine") = false) (hg : ∀ (G' : Ghost) (x y : Nat), FnOk Tryz.prog gf [u64V x, u64V y] G' [] fun r _ H' => H' = [] ∧ r = u64V (op x y)) :
    FnOk Tryz.prog 86 [ClsV a, ClsV b, .func (.func gf) #[] #[]] G [] fun r _ H' => H' = [] ∧ r = ClsV (List.zipWith op a b) := by
  refine FnOk.of_T [(0, _), (1, _), (2, _)] Tryz.func86 rfl Tryz.ntmps86 (by simp) rfl fun w0 hs => ?_
  refine T_seq (T_region rfl ?_)
  refine O_s (S_box hs rfl (cs := (List.map u64V a)) rfl fun b3 _ hs => ?_)
  refine O_s (S_box hs rfl (cs := (List.map u64V b)) rfl fun b4 _ hs => ?_)
  refine O_s (S_alloc hs Tryz.zeroValue27 (cs := (List.map u64V [0, 0, 0, 0])) rfl fun b6 _ hs => ?_)
  refine O_nil (T_sub [(2, _), (3, _), (4, _), (6, _)] ⟨rfl, rfl, rfl, rfl, trivial⟩ ?_)
  refine T_seq (T_region rfl ?_)
  refine O_s (S_alloc hs Tryz.zeroValue27 (cs := (List.map u64V [0, 0, 0, 0])) rfl fun b7 _ hs => ?_)
  refine O_nil (T_sub [(2, _), (3, _), (4, _), (6, _), (7, _)] ⟨rfl, rfl, rfl, rfl, rfl, trivial⟩ ?_)
  refine T_seq (T_seq (T_region rfl ?_))
  refine O_y hs (Y_move rfl ?_)
  refine O_nil (T_sub [(2, _), (3, _), (4, _), (6, _), (7, _), (9, _)] ⟨rfl, rfl, rfl, rfl, rfl, rfl, trivial⟩ ?_)
  refine T_block (T_loop (fun m E w => ∃ (k : Nat) (G' : Ghost), k ≤ 4 ∧ m = 4 - k ∧ E = ⟨[], [(2, .func (.func gf) #[] #[]), (3, .pointer (some ⟨b3, 0, none⟩)), (4, .pointer (some ⟨b4, 0, none⟩)), (6, .pointer (some ⟨b6, 0, none⟩)), (7, .pointer (some ⟨b7, 0, none⟩)), (9, .int .i64 (k : Int))]⟩ ∧ St ⟨w0, G, feet []⟩ G' [.blk b7 27 (List.map u64V ((List.zipWith op a b).take k ++ List.replicate (4 - k) 0)), .blk b6 27 (List.map u64V [0, 0, 0, 0]), .blk b4 27 (List.map u64V b), .blk b3 27 (List.map u64V a)] w) (L := [(2, _), (3, _), (4, _), (6, _), (7, _), (9, _)]) ⟨rfl, rfl, rfl, rfl, rfl, rfl, trivial⟩ (⟨0, _, by omega, rfl, rfl, by simpa using hs⟩) fun m E w hI => ?_)
  obtain ⟨k, G', hk, rfl, rfl, hs⟩ := hI
  refine T_seq (T_region rfl ?_)
  refine O_y hs (Y_cmpS rfl rfl rfl (fun h10 => ?_) (fun h10 => ?_))
  · -- h10: True
    dsimp only [cmpP] at h10
    refine O_nil (T_sub [(2, _), (3, _), (4, _), (6, _), (7, _), (9, _), (10, _)] ⟨rfl, rfl, rfl, rfl, rfl, rfl, rfl, trivial⟩ ?_)
    refine T_seq (T_condT rfl (T_skip ?_))
    refine T_seq (T_block (T_seq (T_region rfl ?_)))
    refine O_y hs (Y_move rfl ?_)
    refine O_y hs (Y_assign rfl ?_)
    refine O_nil (T_sub [(2, _), (3, _), (4, _), (6, _), (7, _), (8, _), (9, _)] ⟨rfl, rfl, rfl, rfl, rfl, rfl, rfl, trivial⟩ ?_)
    refine T_drawS [0, 1, 2, 3, 4, 5, 6, 7, 8, 9] hs (by kernel_rfl) ?_
    replace hs := hs.drew
    refine A_take 0 rfl (by kernel_rfl) rfl hs (Y_move rfl ?_)
    refine A_take 1 rfl (by kernel_rfl) rfl hs (Y_move rfl ?_)
    refine A_take 2 rfl (by kernel_rfl) rfl hs (Y_move rfl ?_)
    refine A_take 3 rfl (by kernel_rfl) rfl hs (Y_idxArr' k Tryz.underlying27 Tryz.sizeOf25 rfl rfl rfl (by omega) ?_)
    refine A_take 4 rfl (by kernel_rfl) rfl hs (Y_ld 3 Tryz.isAgg25 rfl rfl (map_at a k (by omega)) ?_)
    refine A_take 5 rfl (by kernel_rfl) rfl hs (Y_move rfl ?_)
    refine A_take 6 rfl (by kernel_rfl) rfl hs (Y_idxArr' k Tryz.underlying27 Tryz.sizeOf25 rfl rfl rfl (by omega) ?_)
    refine A_take 7 rfl (by kernel_rfl) rfl hs (Y_ld 2 Tryz.isAgg25 rfl rfl (map_at b k (by omega)) ?_)
    have hle := hs.le
    refine A_only 8 rfl (by kernel_rfl) rfl (S_callV (args := [_, _]) (lb := []) (H1 := []) hs rfl rfl hfn hbd hnm (hg _ _ _) fun v1 G' H' _ hR hG20 hs => ?_)
    obtain ⟨rfl, rfl⟩ := hR
    replace hs : St _ _ [_, _, _, _] _ := hs
    refine A_moreS hs hle hG20 (List.Sublist.refl _) ?_
    refine A_take 9 rfl (by kernel_rfl) rfl hs (Y_idxArr' k Tryz.underlying27 Tryz.sizeOf25 rfl rfl rfl (by omega) ?_)
    refine A_tailN 10 rfl (by kernel_rfl) (by kernel_rfl) rfl (S_st hs Tryz.sizeOf25 rfl rfl rfl (by simp only [List.length_map, List.length_append, List.length_take, List.length_replicate, List.length_zipWith]; omega) (cs' := _) rfl fun _ hs => ?_)
    refine A_done (by kernel_rfl) (T_sub [(2, _), (3, _), (4, _), (6, _), (7, _), (9, _)] ⟨rfl, rfl, rfl, rfl, rfl, rfl, trivial⟩ ?_)
    refine T_region rfl ?_
    refine O_y hs (Y_add (c := ((k + 1 : Nat) : Int)) rfl rfl (by omega) (by omega) ?_)
    refine O_y hs (Y_move rfl ?_)
    refine O_nil ⟨_, ?_, [(2, _), (3, _), (4, _), (6, _), (7, _), (9, _)], ⟨rfl, rfl, rfl, rfl, rfl, rfl, trivial⟩, ⟨k + 1, _, by omega, rfl, rfl, by rw [zip_step op a b k (by omega) (by omega) (by omega)] at hs; exact hs⟩⟩
    omega
  · -- h10: False
    dsimp only [cmpP] at h10
    refine O_nil (T_sub [(2, _), (3, _), (4, _), (6, _), (7, _), (9, _), (10, _)] ⟨rfl, rfl, rfl, rfl, rfl, rfl, rfl, trivial⟩ ?_)
    refine T_seq (T_condF rfl (T_exit ?_))
    refine T_seq (T_region rfl ?_)
    refine O_y hs (Y_ldW 0 Tryz.isAgg27 Tryz.sizeOf27 rfl rfl (by first | omega | (simp; omega) | simp) ?_)
    have hs := hs.front 1 rfl (H' := [_, _, _, _]) rfl
    refine O_n (S_stW hs Tryz.sizeOf27 rfl rfl (vs := (List.map u64V ((List.zipWith op a b).take k ++ List.replicate (4 - k) 0))) (by first | omega | (simp; omega) | simp) (by first | omega | (simp; omega) | simp) (u64_all _) fun _ hs => ?_)
    refine O_nil (T_sub [(6, _)] ⟨rfl, trivial⟩ ?_)
    refine T_ret ?_
    have hr := hs
    refine Rt_fin (vs := [_]) Tryz.results86 rfl ⟨ResOk_blk 0 hr Tryz.isAgg27 Tryz.sizeOf27 rfl (cs := (List.map u64V ((List.zipWith op a b).take k ++ List.replicate (4 - k) 0))) rfl (by first | omega | (simp; omega) | simp), trivial⟩ ?_
    try dsimp only [tup]
    obtain rfl : k = 4 := by omega
    exact ⟨_, [], hs.done, rfl, by show ClsV _ = _; rw [Nat.sub_self, List.replicate_zero, List.append_nil, List.take_of_length_le (by rw [List.length_zipWith]; omega)]⟩

set_option maxHeartbeats 400000 in
set_option maxRecDepth 10000 in
theorem not1_ok {G : Ghost} {x y : Nat} :
    FnOk Tryz.prog 87 [u64V x, u64V y] G [] fun r _ H' => H' = [] ∧ r = u64V (xor64 18446744073709551615 x) := by
  refine FnOk.of_T [(0, _), (1, _)] Tryz.func87 rfl Tryz.ntmps87 (by simp) rfl fun w0 hs => ?_
  refine T_seq (T_region rfl ?_)
  refine O_y hs (Y_assign rfl ?_)
  refine O_nil (T_sub [(0, _)] ⟨rfl, trivial⟩ ?_)
  refine T_seq (T_region rfl ?_)
  refine O_y hs (Y_move rfl ?_)
  refine O_y hs (Y_compl64 rfl ?_)
  refine O_y hs (Y_assign rfl ?_)
  refine O_nil (T_sub [(4, _)] ⟨rfl, trivial⟩ ?_)
  refine T_ret ?_
  refine Rt_fin (vs := [_]) Tryz.results87 rfl ⟨rfl, trivial⟩ ?_
  try dsimp only [tup]
  exact ⟨_, [], hs.done, rfl, rfl⟩

set_option maxHeartbeats 400000 in
set_option maxRecDepth 10000 in
theorem int1_ok {G : Ghost} {x y : Nat} :
    FnOk Tryz.prog 92 [u64V x, u64V y] G [] fun r _ H' => H' = [] ∧ r = u64V (and64 x y) := by
  refine FnOk.of_T [(0, _), (1, _)] Tryz.func92 rfl Tryz.ntmps92 (by simp) rfl fun w0 hs => ?_
  refine T_seq (T_region rfl ?_)
  refine O_y hs (Y_assign rfl ?_)
  refine O_nil (T_sub [(0, _), (1, _)] ⟨rfl, rfl, trivial⟩ ?_)
  refine T_seq (T_region rfl ?_)
  refine O_y hs (Y_move rfl ?_)
  refine O_y hs (Y_move rfl ?_)
  refine O_y hs (Y_and64 rfl rfl ?_)
  refine O_y hs (Y_assign rfl ?_)
  refine O_nil (T_sub [(4, _)] ⟨rfl, trivial⟩ ?_)
  refine T_ret ?_
  refine Rt_fin (vs := [_]) Tryz.results92 rfl ⟨rfl, trivial⟩ ?_
  try dsimp only [tup]
  exact ⟨_, [], hs.done, rfl, rfl⟩

set_option maxHeartbeats 400000 in
set_option maxRecDepth 10000 in
theorem uni1_ok {G : Ghost} {x y : Nat} :
    FnOk Tryz.prog 93 [u64V x, u64V y] G [] fun r _ H' => H' = [] ∧ r = u64V (or64 x y) := by
  refine FnOk.of_T [(0, _), (1, _)] Tryz.func93 rfl Tryz.ntmps93 (by simp) rfl fun w0 hs => ?_
  refine T_seq (T_region rfl ?_)
  refine O_y hs (Y_assign rfl ?_)
  refine O_nil (T_sub [(0, _), (1, _)] ⟨rfl, rfl, trivial⟩ ?_)
  refine T_seq (T_region rfl ?_)
  refine O_y hs (Y_move rfl ?_)
  refine O_y hs (Y_move rfl ?_)
  refine O_y hs (Y_or64 rfl rfl ?_)
  refine O_y hs (Y_assign rfl ?_)
  refine O_nil (T_sub [(4, _)] ⟨rfl, trivial⟩ ?_)
  refine T_ret ?_
  refine Rt_fin (vs := [_]) Tryz.results93 rfl ⟨rfl, trivial⟩ ?_
  try dsimp only [tup]
  exact ⟨_, [], hs.done, rfl, rfl⟩

set_option maxHeartbeats 400000 in
set_option maxRecDepth 10000 in
theorem not_ok {G : Ghost} {c : List Nat} (hc : c.length = 4) :
    FnOk Tryz.prog 68 [ClsV c] G [] fun r _ H' => H' = [] ∧ r = ClsV (notF c) := by
  have hn := notF_len hc
  refine FnOk.of_T [(0, _)] Tryz.func68 rfl Tryz.ntmps68 (by simp) rfl fun w0 hs => ?_
  refine T_seq (T_region rfl ?_)
  refine O_s (S_box hs rfl (cs := (List.map u64V c)) rfl fun b1 _ hs => ?_)
  refine O_s (S_alloc hs Tryz.zeroValue27 (cs := (List.map u64V [0, 0, 0, 0])) rfl fun b2 _ hs => ?_)
  refine O_nil (T_sub [(1, _), (2, _)] ⟨rfl, rfl, trivial⟩ ?_)
  refine T_seq (T_region rfl ?_)
  refine O_y hs (Y_ldW 1 Tryz.isAgg27 Tryz.sizeOf27 rfl rfl (by first | omega | (simp; omega) | simp) ?_)
  refine O_y hs (Y_ldW 1 Tryz.isAgg27 Tryz.sizeOf27 rfl rfl (by first | omega | (simp; omega) | simp) ?_)
  refine O_s (S_call (H1 := []) hs rfl Tryz.func86 rfl (by kernel_rfl) (comb_ok hc hc Tryz.func87 rfl (by kernel_rfl) (fun _ _ _ => not1_ok)) fun v1 G' H' _ hR hG5 hs => ?_)
  obtain ⟨rfl, rfl⟩ := hR
  replace hs : St _ _ [_, _] _ := hs
  refine O_n (S_stW hs Tryz.sizeOf27 rfl rfl (vs := (List.map u64V (notF c))) (by first | omega | (simp; omega) | simp) (by first | omega | (simp; omega) | simp) (u64_all _) fun _ hs => ?_)
  refine O_nil (T_sub [(2, _)] ⟨rfl, trivial⟩ ?_)
  refine T_ret ?_
  have hr := hs
  refine Rt_fin (vs := [_]) Tryz.results68 rfl ⟨ResOk_blk 0 hr Tryz.isAgg27 Tryz.sizeOf27 rfl (cs := (List.map u64V (notF c))) rfl (by first | omega | (simp; omega) | simp), trivial⟩ ?_
  try dsimp only [tup]
  exact ⟨_, [], hs.done, rfl, rfl⟩

set_option maxHeartbeats 400000 in
set_option maxRecDepth 10000 in
theorem inter_ok {G : Ghost} {a b : List Nat} (ha : a.length = 4) (hb : b.length = 4) :
    FnOk Tryz.prog 77 [ClsV a, ClsV b] G [] fun r _ H' => H' = [] ∧ r = ClsV (interF a b) := by
  have hn := interF_len ha hb
  refine FnOk.of_T [(0, _), (1, _)] Tryz.func77 rfl Tryz.ntmps77 (by simp) rfl fun w0 hs => ?_
  refine T_seq (T_region rfl ?_)
  refine O_s (S_box hs rfl (cs := (List.map u64V a)) rfl fun b2 _ hs => ?_)
  refine O_s (S_box hs rfl (cs := (List.map u64V b)) rfl fun b3 _ hs => ?_)
  refine O_s (S_alloc hs Tryz.zeroValue27 (cs := (List.map u64V [0, 0, 0, 0])) rfl fun b4 _ hs => ?_)
  refine O_nil (T_sub [(2, _), (3, _), (4, _)] ⟨rfl, rfl, rfl, trivial⟩ ?_)
  refine T_seq (T_region rfl ?_)
  refine O_y hs (Y_ldW 2 Tryz.isAgg27 Tryz.sizeOf27 rfl rfl (by first | omega | (simp; omega) | simp) ?_)
  refine O_y hs (Y_ldW 1 Tryz.isAgg27 Tryz.sizeOf27 rfl rfl (by first | omega | (simp; omega) | simp) ?_)
  refine O_s (S_call (H1 := []) hs rfl Tryz.func86 rfl (by kernel_rfl) (comb_ok ha hb Tryz.func92 rfl (by kernel_rfl) (fun _ _ _ => int1_ok)) fun v1 G' H' _ hR hG7 hs => ?_)
  obtain ⟨rfl, rfl⟩ := hR
  replace hs : St _ _ [_, _, _] _ := hs
  refine O_n (S_stW hs Tryz.sizeOf27 rfl rfl (vs := (List.map u64V (interF a b))) (by first | omega | (simp; omega) | simp) (by first | omega | (simp; omega) | simp) (u64_all _) fun _ hs => ?_)
  refine O_nil (T_sub [(4, _)] ⟨rfl, trivial⟩ ?_)
  refine T_ret ?_
  have hr := hs
  refine Rt_fin (vs := [_]) Tryz.results77 rfl ⟨ResOk_blk 0 hr Tryz.isAgg27 Tryz.sizeOf27 rfl (cs := (List.map u64V (interF a b))) rfl (by first | omega | (simp; omega) | simp), trivial⟩ ?_
  try dsimp only [tup]
  exact ⟨_, [], hs.done, rfl, rfl⟩

set_option maxHeartbeats 400000 in
set_option maxRecDepth 10000 in
theorem union_ok {G : Ghost} {a b : List Nat} (ha : a.length = 4) (hb : b.length = 4) :
    FnOk Tryz.prog 78 [ClsV a, ClsV b] G [] fun r _ H' => H' = [] ∧ r = ClsV (unionF a b) := by
  have hn := unionF_len ha hb
  refine FnOk.of_T [(0, _), (1, _)] Tryz.func78 rfl Tryz.ntmps78 (by simp) rfl fun w0 hs => ?_
  refine T_seq (T_region rfl ?_)
  refine O_s (S_box hs rfl (cs := (List.map u64V a)) rfl fun b2 _ hs => ?_)
  refine O_s (S_box hs rfl (cs := (List.map u64V b)) rfl fun b3 _ hs => ?_)
  refine O_s (S_alloc hs Tryz.zeroValue27 (cs := (List.map u64V [0, 0, 0, 0])) rfl fun b4 _ hs => ?_)
  refine O_nil (T_sub [(2, _), (3, _), (4, _)] ⟨rfl, rfl, rfl, trivial⟩ ?_)
  refine T_seq (T_region rfl ?_)
  refine O_y hs (Y_ldW 2 Tryz.isAgg27 Tryz.sizeOf27 rfl rfl (by first | omega | (simp; omega) | simp) ?_)
  refine O_y hs (Y_ldW 1 Tryz.isAgg27 Tryz.sizeOf27 rfl rfl (by first | omega | (simp; omega) | simp) ?_)
  refine O_s (S_call (H1 := []) hs rfl Tryz.func86 rfl (by kernel_rfl) (comb_ok ha hb Tryz.func93 rfl (by kernel_rfl) (fun _ _ _ => uni1_ok)) fun v1 G' H' _ hR hG7 hs => ?_)
  obtain ⟨rfl, rfl⟩ := hR
  replace hs : St _ _ [_, _, _] _ := hs
  refine O_n (S_stW hs Tryz.sizeOf27 rfl rfl (vs := (List.map u64V (unionF a b))) (by first | omega | (simp; omega) | simp) (by first | omega | (simp; omega) | simp) (u64_all _) fun _ hs => ?_)
  refine O_nil (T_sub [(4, _)] ⟨rfl, trivial⟩ ?_)
  refine T_ret ?_
  have hr := hs
  refine Rt_fin (vs := [_]) Tryz.results78 rfl ⟨ResOk_blk 0 hr Tryz.isAgg27 Tryz.sizeOf27 rfl (cs := (List.map u64V (unionF a b))) rfl (by first | omega | (simp; omega) | simp), trivial⟩ ?_
  try dsimp only [tup]
  exact ⟨_, [], hs.done, rfl, rfl⟩

set_option maxHeartbeats 400000 in
set_option maxRecDepth 10000 in
theorem range_ok {G : Ghost} {lo hi : UInt8} :
    FnOk Tryz.prog 70 [.int .u8 (lo.toNat : Int), .int .u8 (hi.toNat : Int)] G [] fun r _ H' => H' = [] ∧ r = ClsV (ofF (bytesFrom lo.toNat (hi.toNat + 1 - lo.toNat))) := by
  have hlo := lo.toNat_lt
  have hhi := hi.toNat_lt
  refine FnOk.of_T [(0, _), (1, _)] Tryz.func70 rfl Tryz.ntmps70 (by simp) rfl fun w0 hs => ?_
  refine T_seq (T_region rfl ?_)
  refine O_s (S_alloc hs Tryz.zeroValue27 (cs := (List.map u64V [0, 0, 0, 0])) rfl fun b4 _ hs => ?_)
  refine O_nil (T_sub [(0, _), (1, _), (4, _)] ⟨rfl, rfl, rfl, trivial⟩ ?_)
  refine T_seq (T_region rfl ?_)
  refine O_s (S_alloc hs Tryz.zeroValue27 (cs := (List.map u64V [0, 0, 0, 0])) rfl fun b5 _ hs => ?_)
  refine O_nil (T_sub [(0, _), (1, _), (4, _), (5, _)] ⟨rfl, rfl, rfl, rfl, trivial⟩ ?_)
  refine T_seq (T_seq (T_region rfl ?_))
  refine O_y hs (Y_move rfl ?_)
  refine O_y hs (Y_conv Tryz.underlying5 Tryz.underlying3 (c := (lo.toNat : Int)) rfl (wrap64_byte lo) ?_)
  refine O_y hs (Y_assign rfl ?_)
  refine O_nil (T_sub [(1, _), (4, _), (5, _), (6, _)] ⟨rfl, rfl, rfl, rfl, trivial⟩ ?_)
  refine T_block (T_loop (fun m E w => ∃ (k : Nat) (G' : Ghost), k ≤ hi.toNat + 1 - lo.toNat ∧ m = 300 - k ∧ E = ⟨[], [(1, .int .u8 (hi.toNat : Int)), (4, .pointer (some ⟨b4, 0, none⟩)), (5, .pointer (some ⟨b5, 0, none⟩)), (6, .int .i64 ((lo.toNat + k : Nat) : Int))]⟩ ∧ St ⟨w0, G, feet []⟩ G' [.blk b5 27 (List.map u64V (ofF (bytesFrom lo.toNat k))), .blk b4 27 (List.map u64V [0, 0, 0, 0])] w) (L := [(1, _), (4, _), (5, _), (6, _)]) ⟨rfl, rfl, rfl, rfl, trivial⟩ (⟨0, _, by omega, rfl, rfl, hs⟩) fun m E w hI => ?_)
  obtain ⟨k, G', hk, rfl, rfl, hs⟩ := hI
  have h4 := ofF_len (bytesFrom lo.toNat k)
  refine T_seq (T_seq (T_region rfl ?_))
  refine O_y hs (Y_move rfl ?_)
  refine O_y hs (Y_move rfl ?_)
  refine O_y hs (Y_conv Tryz.underlying5 Tryz.underlying3 (c := (hi.toNat : Int)) rfl (wrap64_byte hi) ?_)
  refine O_y hs (Y_cmpS rfl rfl rfl (fun h12 => ?_) (fun h12 => ?_))
  · -- h12: True
    dsimp only [cmpP] at h12
    refine O_nil (T_sub [(1, _), (4, _), (5, _), (6, _), (12, _)] ⟨rfl, rfl, rfl, rfl, rfl, trivial⟩ ?_)
    refine T_condT rfl (T_skip ?_)
    refine T_seq (T_block (T_region rfl ?_))
    refine O_y hs (Y_move rfl ?_)
    refine O_y hs (Y_conv Tryz.underlying3 Tryz.underlying5 (c := ((UInt8.ofNat (lo.toNat + k)).toNat : Int)) rfl (u8wrap (lo.toNat + k)) ?_)
    refine O_s (S_call (H1 := [_]) hs rfl Tryz.func88 rfl (by kernel_rfl) (add_ok (x := UInt8.ofNat (lo.toNat + k)) (ofF_len _)) fun v1 G' H' _ hR hG17 hs => ?_)
    obtain rfl := hR
    replace hs : St _ _ [_, _] _ := hs
    refine O_nil (T_sub [(1, _), (4, _), (5, _), (6, _)] ⟨rfl, rfl, rfl, rfl, trivial⟩ ?_)
    refine T_region rfl ?_
    refine O_y hs (Y_move rfl ?_)
    refine O_y hs (Y_add (c := ((lo.toNat + (k + 1) : Nat) : Int)) rfl rfl (by omega) (by omega) ?_)
    refine O_y hs (Y_assign rfl ?_)
    refine O_nil ⟨_, ?_, [(1, _), (4, _), (5, _), (6, _)], ⟨rfl, rfl, rfl, rfl, trivial⟩, ⟨k + 1, _, by omega, rfl, rfl, by rw [bytesFrom_succ]; exact hs⟩⟩
    omega
  · -- h12: False
    dsimp only [cmpP] at h12
    refine O_nil (T_sub [(1, _), (4, _), (5, _), (6, _), (12, _)] ⟨rfl, rfl, rfl, rfl, rfl, trivial⟩ ?_)
    refine T_condF rfl (T_exit ?_)
    refine T_seq (T_region rfl ?_)
    refine O_y hs (Y_ldW 0 Tryz.isAgg27 Tryz.sizeOf27 rfl rfl (by first | omega | (simp; omega) | simp) ?_)
    have hs := hs.front 1 rfl (H' := [_, _]) rfl
    refine O_n (S_stW hs Tryz.sizeOf27 rfl rfl (vs := (List.map u64V (ofF (bytesFrom lo.toNat k)))) (by first | omega | (simp; omega) | simp) (by first | omega | (simp; omega) | simp) (u64_all _) fun _ hs => ?_)
    refine O_nil (T_sub [(4, _)] ⟨rfl, trivial⟩ ?_)
    refine T_ret ?_
    have hr := hs
    refine Rt_fin (vs := [_]) Tryz.results70 rfl ⟨ResOk_blk 0 hr Tryz.isAgg27 Tryz.sizeOf27 rfl (cs := (List.map u64V (ofF (bytesFrom lo.toNat k)))) rfl (by first | omega | (simp; omega) | simp), trivial⟩ ?_
    try dsimp only [tup]
    exact ⟨_, [], hs.done, rfl, by rw [show hi.toNat + 1 - lo.toNat = k by omega]; rfl⟩

set_option maxHeartbeats 400000 in
set_option maxRecDepth 10000 in
theorem has_ok {G : Ghost} {c : List Nat} {x : UInt8} (hc : c.length = 4) :
    FnOk Tryz.prog 34 [ClsV c, .int .u8 (x.toNat : Int)] G [] fun r _ H' => H' = [] ∧ r = .bool (hasF c x) := by
  have hx := x.toNat_lt
  have hcell : (c.map u64V)[x.toNat / 64]? = some (u64V (c.getD (x.toNat / 64) 0)) := by rw [List.getElem?_map, List.getElem?_eq_getElem (by omega), List.getD_eq_getElem?_getD, List.getElem?_eq_getElem (by omega)]; rfl
  refine FnOk.of_T [(0, _), (1, _)] Tryz.func34 rfl Tryz.ntmps34 (by simp) rfl fun w0 hs => ?_
  refine T_seq (T_region rfl ?_)
  refine O_s (S_box hs rfl (cs := (List.map u64V c)) rfl fun b2 _ hs => ?_)
  refine O_y hs (Y_assign rfl ?_)
  refine O_nil (T_sub [(1, _), (2, _)] ⟨rfl, rfl, trivial⟩ ?_)
  refine T_seq (T_region rfl ?_)
  refine O_y hs (Y_move rfl ?_)
  refine O_y hs (Y_quoU (c := ((x.toNat / 64 : Nat) : Int)) rfl rfl (by omega) (by omega) (by omega) ?_)
  refine O_y hs (Y_idxArr' (x.toNat / 64) Tryz.underlying27 Tryz.sizeOf25 rfl rfl rfl (by omega) ?_)
  refine O_y hs (Y_ld 0 Tryz.isAgg25 rfl rfl hcell ?_)
  refine O_y hs (Y_move rfl ?_)
  refine O_y hs (Y_rem (c := ((x.toNat % 64 : Nat) : Int)) rfl rfl (by omega) (by omega) (by omega) ?_)
  refine O_y hs (Y_shl1 (x.toNat % 64) (by omega) rfl rfl ?_)
  refine O_y hs (Y_and64 rfl rfl ?_)
  refine O_y hs (Y_cmpB (t := hasF c x) rfl rfl rfl (has_iff c x) ?_)
  refine O_y hs (Y_assign rfl ?_)
  refine O_nil (T_sub [(4, _)] ⟨rfl, trivial⟩ ?_)
  refine T_ret ?_
  refine Rt_fin (vs := [_]) Tryz.results34 rfl ⟨rfl, trivial⟩ ?_
  try dsimp only [tup]
  exact ⟨_, [], hs.done, rfl, rfl⟩

set_option maxHeartbeats 400000 in
set_option maxRecDepth 10000 in
theorem memb_ok {G : Ghost} {c : List Nat} (hc : c.length = 4) :
    FnOk Tryz.prog 95 [ClsV c] G [] fun r G' H' => H' = [] ∧ ∃ b, r = .func (.func 110) #[] #[.pointer (some ⟨b, 0, none⟩)] ∧ ClsAt G' b c := by
  refine FnOk.of_T [(0, _)] Tryz.func95 rfl Tryz.ntmps95 (by simp) rfl fun w0 hs => ?_
  refine T_seq (T_region rfl ?_)
  refine O_s (S_box hs rfl (cs := (List.map u64V c)) rfl fun b1 _ hs => ?_)
  refine O_y hs (Y_assign rfl ?_)
  refine O_nil (T_sub [(1, _)] ⟨rfl, trivial⟩ ?_)
  refine T_seq (T_region rfl ?_)
  refine O_y hs (Y_makeFunc (vs := [_]) rfl ?_)
  refine O_y hs (Y_assign rfl ?_)
  refine O_nil (T_sub [(2, _)] ⟨rfl, trivial⟩ ?_)
  refine T_ret ?_
  refine Rt_fin (vs := [_]) Tryz.results95 rfl ⟨rfl, trivial⟩ ?_
  try dsimp only [tup]
  obtain ⟨G', hG, hf, hs3⟩ := hs.fixBlk (fun k _ => noMb k)
  exact ⟨G', [], hs3, rfl, _, rfl, hf⟩

set_option maxHeartbeats 400000 in
set_option maxRecDepth 10000 in
theorem mem1_ok {lp b : Nat} {G : Ghost} {c : List Nat} {H0 : List Res} {J : Nat → Ghost → List Res → Prop} (hcb : ClsAt G b c) (hc : c.length = 4) (hw : ∀ w ∈ c, w < W64) (hT : Tab G) (hJm : ∀ n G1 G2 H, Ghost.le G1 G2 → J n G1 H → J n G2 H)
    (hY : ∀ n a G' H', (bytesF c)[n]? = some a → G.le G' → J n G' H' → YieldOk Tryz.prog lp [.int .u8 (a.toNat : Int)] G' H' fun r G'' H'' => r = .bool true ∧ J (n + 1) G'' H'') (hJ0 : J 0 G H0) :
    FnOk Tryz.prog 110 [.func (.yield lp) #[] #[], .pointer (some ⟨b, 0, none⟩)] G H0 fun _ G' H' => J (bytesF c).length G' H' := by
  refine FnOk.of_T [(0, _), (1, _)] Tryz.func110 rfl Tryz.ntmps110 (by simp) rfl fun w0 hs => ?_
  have hcb0 := hcb
  have hT0 := hT
  refine T_seq (T_region rfl ?_)
  refine O_y hs (Y_ldAG (vs := List.map u64V c) Tryz.isAgg27 Tryz.sizeOf27 rfl hcb.whole (by rw [List.length_map, hc]) ?_)
  refine O_y hs (Y_move rfl ?_)
  refine O_nil (T_sub [(0, _), (5, _), (6, _)] ⟨rfl, rfl, rfl, trivial⟩ ?_)
  refine T_block (T_loop (fun m E w => ∃ (k n : Nat) (G' : Ghost) (H' : List Res), k ≤ 4 ∧ (bytesF c).drop n = bytesG k (c.drop k) ∧ n ≤ (bytesF c).length ∧ J n G' H' ∧ m = 4 - k ∧ E = ⟨[], [(0, .func (.yield lp) #[] #[]), (5, (ClsV c)), (6, .int .i64 (k : Int))]⟩ ∧ St ⟨w0, G, feet H0⟩ G' H' w) (L := [(0, _), (5, _), (6, _)]) ⟨rfl, rfl, rfl, trivial⟩ (⟨0, 0, _, _, by omega, rfl, by omega, hJ0, rfl, rfl, hs⟩) fun m E w hI => ?_)
  obtain ⟨k, n, G', H', hk, hd, hnl, hJ, rfl, rfl, hs⟩ := hI
  have hcb := hcb0.mono hs.le
  have hT := hT0.mono hs.le
  refine T_seq (T_region rfl ?_)
  refine O_y hs (Y_cmpS rfl rfl rfl (fun h7 => ?_) (fun h7 => ?_))
  · -- h7: True
    dsimp only [cmpP] at h7
    refine O_nil (T_sub [(0, _), (5, _), (6, _), (7, _)] ⟨rfl, rfl, rfl, rfl, trivial⟩ ?_)
    refine T_seq (T_condT rfl (T_skip ?_))
    refine T_seq (T_block (T_seq (T_region rfl ?_)))
    refine O_y hs (Y_move rfl ?_)
    refine O_y hs (Y_indexV (vs := List.map u64V c) (v := u64V c[k]) k Tryz.underlying27 Tryz.isAgg25 Tryz.sizeOf25 rfl rfl rfl (by omega) (map_at c k (by omega)) ?_)
    refine O_y hs (Y_assign rfl ?_)
    refine O_y hs (Y_assign rfl ?_)
    refine O_nil (T_sub [(0, _), (3, _), (4, _), (5, _), (6, _)] ⟨rfl, rfl, rfl, rfl, rfl, trivial⟩ ?_)
    have hwk := hw c[k] (List.getElem_mem (show k < c.length by omega))
    rw [List.drop_eq_getElem_cons (show k < c.length by omega), bytesG] at hd
    refine T_block (T_loop (fun m E w => ∃ (n f wd : Nat) (G' : Ghost) (H' : List Res), (bytesF c).drop n = memF k f wd ++ bytesG (k + 1) (c.drop (k + 1)) ∧ wd ≤ f ∧ wd < W64 ∧ n ≤ (bytesF c).length ∧ J n G' H' ∧ m = wd ∧ E = ⟨[], [(0, .func (.yield lp) #[] #[]), (3, .int .i64 (k : Int)), (4, u64V wd), (5, (ClsV c)), (6, .int .i64 (k : Int))]⟩ ∧ St ⟨w0, G, feet H0⟩ G' H' w) (L := [(0, _), (3, _), (4, _), (5, _), (6, _)]) ⟨rfl, rfl, rfl, rfl, rfl, trivial⟩ (⟨n, c[k], c[k], _, _, hd, Nat.le_refl _, hwk, hnl, hJ, rfl, rfl, hs⟩) fun m E w hI => ?_)
    obtain ⟨n, f, wd, G', H', hd, hwf, hww, hnl, hJ, hmw, rfl, hs⟩ := hI
    have hcb := hcb0.mono hs.le
    have hT := hT0.mono hs.le
    refine T_seq (T_seq (T_region rfl ?_))
    refine O_y hs (Y_move rfl ?_)
    refine O_y hs (Y_cmpS rfl rfl rfl (fun h11 => ?_) (fun h11 => ?_))
    · -- h11: True
      dsimp only [cmpP] at h11
      obtain ⟨f, rfl⟩ : ∃ q, f = q + 1 := ⟨f - 1, by omega⟩
      rw [memF, if_neg (by omega), List.cons_append] at hd
      obtain ⟨hn, hst, hd⟩ := mem_step hd
      replace hst : (bytesF c)[n]? = some (UInt8.ofNat (64 * k + tzF wd)) := by rw [List.getElem?_eq_getElem hn, hst]
      have htz := tzF_le wd
      refine O_nil (T_sub [(0, _), (3, _), (4, _), (5, _), (6, _), (11, _)] ⟨rfl, rfl, rfl, rfl, rfl, rfl, trivial⟩ ?_)
      refine T_condT rfl (T_skip ?_)
      refine T_block (T_seq (T_seq (T_region rfl ?_)))
      refine O_y hs (Y_move rfl ?_)
      refine O_y hs (Y_move rfl ?_)
      refine O_y hs (Y_mul (c := ((64 * k : Nat) : Int)) rfl rfl (by omega) (by omega) ?_)
      refine O_y hs (Y_move rfl ?_)
      refine O_s (S_call (H1 := []) (H := H') hs rfl Tryz.func111 rfl (by kernel_rfl) (tz_ok hT) fun v1 G' H' _ hR hG16 hs => ?_)
      obtain ⟨rfl, rfl⟩ := hR
      replace hs : St _ _ H' _ := hs
      replace hcb := hcb.mono hG16
      replace hT := hT.mono hG16
      replace hJ := hJm _ _ _ _ hG16 hJ
      refine O_y hs (Y_add (c := ((64 * k + tzF wd : Nat) : Int)) rfl rfl (by omega) (by omega) ?_)
      refine O_y hs (Y_conv Tryz.underlying3 Tryz.underlying5 (c := ((UInt8.ofNat (64 * k + tzF wd)).toNat : Int)) rfl (u8wrap _) ?_)
      refine O_s (S_yield (H1 := H') (H := []) (by rw [List.append_nil]; exact hs) rfl rfl (hY n _ _ _ hst hs.le hJ) fun v G'' H'' w' hR hG19 hs => ?_)
      obtain ⟨rfl, hJ⟩ := hR
      rw [List.append_nil] at hs
      replace hcb := hcb.mono hG19
      replace hT := hT.mono hG19
      refine O_y hs (Y_not rfl ?_)
      refine O_nil (T_sub [(0, _), (3, _), (4, _), (5, _), (6, _), (20, _)] ⟨rfl, rfl, rfl, rfl, rfl, rfl, trivial⟩ ?_)
      refine T_condF rfl (T_skip ?_)
      refine T_region rfl ?_
      refine O_y hs (Y_move rfl ?_)
      refine O_y hs (Y_move rfl ?_)
      refine O_y hs (Y_sub64 (b := 1) rfl rfl ?_)
      refine O_y hs (Y_and64 rfl rfl ?_)
      refine O_y hs (Y_assign rfl ?_)
      have h1 := and64_le wd (sub64 wd 1)
      rw [sub_one (by omega) hww] at h1
      refine O_nil ⟨_, ?_, [(0, _), (3, _), (4, _), (5, _), (6, _)], ⟨rfl, rfl, rfl, rfl, rfl, trivial⟩, ⟨n + 1, f, _, _, _, hd, by rw [sub_one (by omega) hww]; omega, and64_lt _ _, by omega, hJ, rfl, rfl, hs⟩⟩
      rw [sub_one (by omega) hww]; omega
    · -- h11: False
      dsimp only [cmpP] at h11
      refine O_nil (T_sub [(0, _), (3, _), (4, _), (5, _), (6, _), (11, _)] ⟨rfl, rfl, rfl, rfl, rfl, rfl, trivial⟩ ?_)
      refine T_condF rfl (T_exit ?_)
      refine T_region rfl ?_
      refine O_y hs (Y_add (c := ((k + 1 : Nat) : Int)) rfl rfl (by omega) (by omega) ?_)
      refine O_y hs (Y_move rfl ?_)
      obtain rfl : wd = 0 := by omega
      rw [memF_zero, List.nil_append] at hd
      refine O_nil ⟨_, ?_, [(0, _), (5, _), (6, _)], ⟨rfl, rfl, rfl, trivial⟩, ⟨k + 1, n, _, _, by omega, hd, hnl, hJ, rfl, rfl, hs⟩⟩
      omega
  · -- h7: False
    dsimp only [cmpP] at h7
    refine O_nil (T_sub [(0, _), (5, _), (6, _), (7, _)] ⟨rfl, rfl, rfl, rfl, trivial⟩ ?_)
    refine T_seq (T_condF rfl (T_exit ?_))
    dsimp only [Ex.sq, Ex.lp, Ex.bk]
    rw [show Nat.beq _ _ = true from Nat.beq_refl _, cond_true]
    refine Rt_finN (vs := []) Tryz.results110 rfl trivial ?_
    try dsimp only [tup]
    obtain rfl : k = 4 := by omega
    rw [List.drop_eq_nil_of_le (by omega : c.length ≤ 4)] at hd
    have hn := List.drop_eq_nil_iff.1 hd
    obtain rfl : n = (bytesF c).length := by omega
    exact ⟨_, _, hs, hJ⟩

set_option maxHeartbeats 400000 in
set_option maxRecDepth 10000 in
theorem aseq_ok {b : Nat} {G : Ghost} {c : List Nat} (hcb : ClsAt G b c) (hc : c.length = 4) (hw : ∀ w ∈ c, w < W64) (hT : Tab G) :
    FnOk Tryz.prog 109 [.slice none 0 0, .func (.func 110) #[] #[.pointer (some ⟨b, 0, none⟩)]] G [] fun r G' H' => H' = [] ∧ Bytes G' r (bytesF c) := by
  have hbl := bytesF_len hc hw
  refine FnOk.of_TM [(0, _), (1, _)] Tryz.func109 rfl Tryz.ntmps109 (by simp) rfl fun w0 hs => ?_
  refine T_seq (T_region rfl ?_)
  refine O_s (S_box hs rfl (cs := [_]) rfl fun b2 _ hs => ?_)
  refine O_y hs (Y_assign rfl ?_)
  refine O_nil (T_sub [(1, _), (2, _)] ⟨rfl, rfl, trivial⟩ ?_)
  refine T_seq (T_seq (T_region rfl ?_))
  refine O_y hs (Y_move rfl ?_)
  refine O_nil (T_sub [(2, _), (6, _)] ⟨rfl, rfl, trivial⟩ ?_)
  have hs := hs.nilRow 5 1
  have hs := hs.front 1 rfl (H' := [_, _]) rfl
  have hs := hs.front 1 rfl (H' := [_, _]) rfl
  refine T_block (T_rangeFunc (H1 := [_, _]) (H := []) (R := fun G' H2 => ∃ (v : Value), H2 = [.row 5 1 v (bytesF c).length (((bytesF c).take (bytesF c).length).map byteV), .blk b2 22 [v]]) hs rfl Tryz.func110 rfl (by kernel_rfl) ?hit ?done)
  case hit =>
    intro lp D rec hp ha hbd hst hpe hAg
    obtain ⟨state, pending, fn', tmps, params, assign, body, defers⟩ := rec
    dsimp only at hp ha hbd hst hpe hAg
    subst hst hpe
    refine FnOk.mono (mem1_ok (lp := lp) (J := fun n G' H' => n ≤ (bytesF c).length ∧ ∃ (v : Value), H' = [.obj lp (.loop { state := .ready, pending := none, fn := fn', tmps := tmps, params := params, assign := assign, body := body, defers := defers }), .obj D (.deferred (some [])), .row 5 1 v n (((bytesF c).take n).map byteV), .blk b2 22 [v]]) hcb hc hw hT (fun _ _ _ _ _ h => h) ?round ⟨by omega, _, rfl⟩) ?fin
    case fin =>
      rintro r G' H' _ ⟨_, v, rfl⟩
      exact ⟨_, rfl, v, rfl⟩
    rintro n a G' H' hst hle ⟨hnl, v7, rfl⟩
    obtain ⟨hn, ha'⟩ := List.getElem?_eq_some_iff.1 hst
    subst hp ha hbd
    refine YieldOk.of_T hAg rfl rfl (by simp) rfl fun w1 hs => ?_
    refine T_region rfl ?_
    refine O_y hs (Y_assign rfl ?_)
    refine O_nil ⟨hs, fun w2 hs => ?_⟩
    refine T_block (T_region rfl ?_)
    refine O_y hs (Y_ld 3 Tryz.isAgg22 rfl rfl rfl ?_)
    refine O_y hs (Y_move rfl ?_)
    refine O_s (S_lit hs Tryz.underlying22 Tryz.sizeOf5 Tryz.zeroValue5 rfl rfl (by decide) (by decide) rfl (cs := [_]) rfl rfl fun v1 _ hs _ => ?_)
    obtain ⟨_, hG10, hl10, hs⟩ := hs.fixRow (noMh hs ⟨fun _ h => h, fun _ h => h, fun _ h => h, fun _ h => h, trivial⟩)
    have hs := hs.front 2 rfl (H' := [_, _, _, _]) rfl
    refine O_s (S_append hs Tryz.underlying22 TI5 rfl (by decide) rfl rfl (hl10) (one1 rfl) (by omega) (by omega) fun v2 _ hs => ?_)
    have hs := hs.front 3 rfl (H' := [_, _, _, _]) rfl
    refine O_n (S_st hs Tryz.sizeOf22 rfl rfl (hs.rowOne 1 rfl) (by simp) (cs' := [_]) rfl fun _ hs => ?_)
    have hs := hs.front 1 rfl (H' := [_, _, _, _]) rfl
    have hs := hs.front 3 rfl (H' := [_, _, _, _]) rfl
    have hs := hs.front 3 rfl (H' := [_, _, _, _]) rfl
    refine O_nil ⟨_, _, hs, rfl, hn, v2, ?_⟩
    rw [take_map_succ _ n hn, ha']
  case done =>
    rintro lp D o' G' H2 w' ⟨v7, rfl⟩ hle hs
    refine T_seq (T_region rfl ?_)
    refine O_y hs (Y_ld 3 Tryz.isAgg22 rfl rfl rfl ?_)
    refine O_y hs (Y_assign rfl ?_)
    refine O_nil (T_sub [(4, _)] ⟨rfl, trivial⟩ ?_)
    refine T_ret ?_
    refine RtM_fin hs (vs := [_]) Tryz.results109 rfl (fun _ hs => ⟨⟨rfl, trivial⟩, ?_⟩)
    try dsimp only [tup]
    have hs := hs.front 1 rfl (H' := [_, _, _]) rfl
    obtain ⟨G', hG, hf, hs3⟩ := hs.fixRow noM
    exact ⟨G', [], hs3.done, rfl, Bytes.ofSl hf rfl (by rw [List.take_length])⟩

set_option maxHeartbeats 400000 in
set_option maxRecDepth 10000 in
theorem coll_ok {b : Nat} {G : Ghost} {c : List Nat} (hcb : ClsAt G b c) (hc : c.length = 4) (hw : ∀ w ∈ c, w < W64) (hT : Tab G) :
    FnOk Tryz.prog 94 [.func (.func 110) #[] #[.pointer (some ⟨b, 0, none⟩)]] G [] fun r G' H' => H' = [] ∧ Bytes G' r (bytesF c) := by
  refine FnOk.of_T [(0, _)] Tryz.func94 rfl Tryz.ntmps94 (by simp) rfl fun w0 hs => ?_
  have hcb0 := hcb
  have hT0 := hT
  refine T_seq (T_region rfl ?_)
  refine O_y hs (Y_assign rfl ?_)
  refine O_nil (T_sub [(0, _)] ⟨rfl, trivial⟩ ?_)
  refine T_seq (T_region rfl ?_)
  refine O_y hs (Y_move rfl ?_)
  refine O_s (S_call (H1 := []) hs rfl Tryz.func109 rfl (by kernel_rfl) (aseq_ok hcb hc hw hT) fun v1 G' H' _ hR hG4 hs => ?_)
  obtain ⟨rfl, hb⟩ := hR
  replace hs : St _ _ [] _ := hs
  replace hcb := hcb.mono hG4
  replace hT := hT.mono hG4
  refine O_y hs (Y_assign rfl ?_)
  refine O_nil (T_sub [(2, _)] ⟨rfl, trivial⟩ ?_)
  refine T_ret ?_
  refine Rt_fin (vs := [_]) Tryz.results94 rfl ⟨rfl, trivial⟩ ?_
  try dsimp only [tup]
  exact ⟨_, [], hs.done, rfl, hb⟩

set_option maxHeartbeats 400000 in
set_option maxRecDepth 10000 in
theorem bytes_ok {G : Ghost} {c : List Nat} (hc : c.length = 4) (hw : ∀ w ∈ c, w < W64) (hT : Tab G) :
    FnOk Tryz.prog 81 [ClsV c] G [] fun r G' H' => H' = [] ∧ Bytes G' r (bytesF c) := by
  refine FnOk.of_T [(0, _)] Tryz.func81 rfl Tryz.ntmps81 (by simp) rfl fun w0 hs => ?_
  have hT0 := hT
  refine T_seq (T_region rfl ?_)
  refine O_s (S_box hs rfl (cs := (List.map u64V c)) rfl fun b1 _ hs => ?_)
  refine O_y hs (Y_assign rfl ?_)
  refine O_nil (T_sub [(1, _)] ⟨rfl, trivial⟩ ?_)
  refine T_seq (T_region rfl ?_)
  refine O_y hs (Y_ldW 0 Tryz.isAgg27 Tryz.sizeOf27 rfl rfl (by first | omega | (simp; omega) | simp) ?_)
  refine O_s (S_call (H1 := []) hs rfl Tryz.func95 rfl (by kernel_rfl) (memb_ok hc) fun v1 G' H' _ hR hG4 hs => ?_)
  obtain ⟨rfl, b, rfl, hcb⟩ := hR
  replace hs : St _ _ [_] _ := hs
  replace hT := hT.mono hG4
  refine O_s (S_call (H1 := []) hs rfl Tryz.func94 rfl (by kernel_rfl) (coll_ok hcb hc hw hT) fun v2 G' H' _ hR hG5 hs => ?_)
  obtain ⟨rfl, hb⟩ := hR
  replace hs : St _ _ [_] _ := hs
  replace hT := hT.mono hG5
  replace hcb := hcb.mono hG5
  refine O_y hs (Y_assign rfl ?_)
  refine O_nil (T_sub [(2, _)] ⟨rfl, trivial⟩ ?_)
  refine T_ret ?_
  refine Rt_fin (vs := [_]) Tryz.results81 rfl ⟨rfl, trivial⟩ ?_
  try dsimp only [tup]
  exact ⟨_, [], hs.done, rfl, hb⟩

set_option maxHeartbeats 400000 in
set_option maxRecDepth 10000 in
theorem bad2_ok {G : Ghost} {p : Pc} :
    FnOk Tryz.prog 48 [.agg #[.bool p.1, .int .u8 (p.2.toNat : Int)]] G [] fun r _ H' => H' = [] ∧ r = .bool (badP p) := by
  obtain ⟨q, b⟩ := p
  refine FnOk.of_T [(0, _)] Tryz.func48 rfl Tryz.ntmps48 (by simp) rfl fun w0 hs => ?_
  refine T_seq (T_region rfl ?_)
  refine O_s (S_box hs rfl (cs := [_, _]) rfl fun b1 _ hs => ?_)
  refine O_y hs (Y_assign rfl ?_)
  refine O_nil (T_sub [(1, _)] ⟨rfl, trivial⟩ ?_)
  refine T_seq (T_region rfl ?_)
  refine O_y hs (Y_fieldAddr FO84_0 rfl (m := 0) rfl ?_)
  refine O_y hs (Y_ld 0 Tryz.isAgg4 rfl rfl rfl ?_)
  refine O_y hs (Y_move rfl ?_)
  cases q
  · -- q: False
    refine O_no 5 rfl rfl ?_
    refine O_no 5 rfl rfl ?_
    refine O_no 5 rfl rfl ?_
    refine O_y hs (Y_pickF rfl rfl ?_)
    refine O_y hs (Y_assign rfl ?_)
    refine O_nil (T_sub [(2, _)] ⟨rfl, trivial⟩ ?_)
    refine T_ret ?_
    refine Rt_fin (vs := [_]) Tryz.results48 rfl ⟨rfl, trivial⟩ ?_
    try dsimp only [tup]
    exact ⟨_, [], hs.done, rfl, congrArg Value.bool (by simp only [badP]; first | rfl | (simp; exact UInt8.toNat_inj.1 (by show b.toNat = 0; omega)) | (simp; intro h; exact h8 (by rw [h]; rfl)))⟩
  · -- q: True
    refine O_yy 5 hs rfl rfl (Y_fieldAddr FO84_1 rfl (m := 1) rfl ?_)
    refine O_yy 5 hs rfl rfl (Y_ld 0 Tryz.isAgg5 rfl rfl rfl ?_)
    refine O_yy 5 hs rfl rfl (Y_cmpS rfl rfl rfl (fun h8 => ?_) (fun h8 => ?_))
    · -- h8: True
      dsimp only [cmpP] at h8
      refine O_y hs (Y_pickT rfl rfl ?_)
      refine O_y hs (Y_assign rfl ?_)
      refine O_nil (T_sub [(2, _)] ⟨rfl, trivial⟩ ?_)
      refine T_ret ?_
      refine Rt_fin (vs := [_]) Tryz.results48 rfl ⟨rfl, trivial⟩ ?_
      try dsimp only [tup]
      exact ⟨_, [], hs.done, rfl, congrArg Value.bool (by simp only [badP]; first | rfl | (simp; exact UInt8.toNat_inj.1 (by show b.toNat = 0; omega)) | (simp; intro h; exact h8 (by rw [h]; rfl)))⟩
    · -- h8: False
      dsimp only [cmpP] at h8
      refine O_y hs (Y_pickT rfl rfl ?_)
      refine O_y hs (Y_assign rfl ?_)
      refine O_nil (T_sub [(2, _)] ⟨rfl, trivial⟩ ?_)
      refine T_ret ?_
      refine Rt_fin (vs := [_]) Tryz.results48 rfl ⟨rfl, trivial⟩ ?_
      try dsimp only [tup]
      exact ⟨_, [], hs.done, rfl, congrArg Value.bool (by simp only [badP]; first | rfl | (simp; exact UInt8.toNat_inj.1 (by show b.toNat = 0; omega)) | (simp; intro h; exact h8 (by rw [h]; rfl)))⟩

set_option maxHeartbeats 400000 in
set_option maxRecDepth 10000 in
theorem ifp_raw {G : Ghost} {v : Value} {l : List Pc} {p : Pc → Bool} {gf : Nat} {lb : List Value} {fnn : Func} (hl : Pcs G v l) (hn : l.length ≤ 1000000000) (hfn : Tryz.prog.funcs[gf]? = some fnn) (hbd : fnn.body.isSome = true) (hnm : (fnn.name == "runtime.NumGoroutine") = false) (hg : ∀ (G' : Ghost) (c : List Value) (a : Pc), a ∈ l → G.le G' → PcR G' c a → FnOk Tryz.prog gf (.agg c.toArray :: lb) G' [] fun r _ H' => H' = [] ∧ r = .bool (p a)) :
    FnOk Tryz.prog 79 [v, .func (.func gf) #[] lb.toArray] G [] fun r _ H' => H' = [] ∧ ∃ z : Int, r = .int .i64 z ∧ (0 ≤ z ↔ l.any p = true) := by
  obtain ⟨A, cap, rfl⟩ := hl.slice
  refine FnOk.of_T [(0, _), (1, _)] Tryz.func79 rfl Tryz.ntmps79 (by simp) rfl fun w0 hs => ?_
  have hl0 := hl
  refine T_seq (T_region rfl ?_)
  refine O_y hs (Y_assign rfl ?_)
  refine O_nil (T_sub [(0, _), (1, _)] ⟨rfl, rfl, trivial⟩ ?_)
  refine T_seq (T_seq (T_region rfl ?_))
  refine O_y hs (Y_move rfl ?_)
  refine O_y hs (Y_len Tryz.underlying79 rfl ?_)
  refine O_y hs (Y_move rfl ?_)
  refine O_nil (T_sub [(0, _), (1, _), (7, _), (8, _)] ⟨rfl, rfl, rfl, rfl, trivial⟩ ?_)
  refine T_block (T_loop (fun m E w => ∃ (k : Nat) (G' : Ghost), k ≤ l.length ∧ (l.take k).any p = false ∧ m = l.length - k ∧ E = ⟨[], [(0, (.slice A l.length cap)), (1, .func (.func gf) #[] lb.toArray), (7, .int .i64 ((l.length : Nat) : Int)), (8, .int .i64 (k : Int))]⟩ ∧ St ⟨w0, G, feet []⟩ G' [] w) (L := [(0, _), (1, _), (7, _), (8, _)]) ⟨rfl, rfl, rfl, rfl, trivial⟩ (⟨0, _, by omega, by simp, rfl, rfl, hs⟩) fun m E w hI => ?_)
  obtain ⟨k, G', hk, hany, rfl, rfl, hs⟩ := hI
  have hl := hl0.mono hs.le
  refine T_seq (T_region rfl ?_)
  refine O_y hs (Y_cmpS rfl rfl rfl (fun h9 => ?_) (fun h9 => ?_))
  · -- h9: True
    dsimp only [cmpP] at h9
    refine O_nil (T_sub [(0, _), (1, _), (7, _), (8, _), (9, _)] ⟨rfl, rfl, rfl, rfl, rfl, trivial⟩ ?_)
    refine T_seq (T_condT rfl (T_skip ?_))
    have hk' : k < l.length := by omega
    refine T_seq (T_block (T_seq (T_region rfl ?_)))
    refine O_y hs (Y_move rfl ?_)
    refine O_y hs (Y_assign rfl ?_)
    refine O_nil (T_sub [(0, _), (1, _), (5, _), (7, _), (8, _)] ⟨rfl, rfl, rfl, rfl, rfl, trivial⟩ ?_)
    refine T_seq (T_region rfl ?_)
    refine O_y hs (Y_move rfl ?_)
    refine O_y hs (Y_move rfl ?_)
    refine O_y hs (Y_move rfl ?_)
    refine O_y hs (Y_idxS hl k Tryz.underlying79 Tryz.sizeOf84 rfl rfl rfl (by omega) fun p14 cc hp hcl hcr => ?_)
    refine O_y hs (Y_ldAG Tryz.isAgg84 Tryz.sizeOf84 rfl hp hcl ?_)
    obtain ⟨q, hq⟩ : ∃ q, p l[k] = q := ⟨_, rfl⟩
    refine O_s (S_callV (args := [_]) (lb := lb) (H1 := []) hs rfl rfl hfn hbd hnm (hg _ _ _ (List.getElem_mem hk') hs.le hcr) fun v1 G' H' _ hR hG16 hs => ?_)
    obtain ⟨rfl, rfl⟩ := hR
    replace hs : St _ _ [] _ := hs
    rw [hq]
    replace hl := hl.mono hG16
    cases q
    · -- q: False
      refine O_nil (T_sub [(0, _), (1, _), (5, _), (7, _), (8, _), (16, _)] ⟨rfl, rfl, rfl, rfl, rfl, rfl, trivial⟩ ?_)
      refine T_condF rfl (T_skip ?_)
      refine T_region rfl ?_
      refine O_y hs (Y_add rfl rfl rfl (by omega) ?_)
      refine O_y hs (Y_move rfl ?_)
      refine O_nil ⟨_, ?_, [(0, _), (1, _), (7, _), (8, _)], ⟨rfl, rfl, rfl, rfl, trivial⟩, ⟨k + 1, _, by omega, any_step hk' hany hq, rfl, rfl, hs⟩⟩
      omega
    · -- q: True
      refine O_nil (T_sub [(0, _), (1, _), (5, _), (7, _), (8, _), (16, _)] ⟨rfl, rfl, rfl, rfl, rfl, rfl, trivial⟩ ?_)
      refine T_condT rfl (T_seq (T_region rfl ?_))
      refine O_y hs (Y_move rfl ?_)
      refine O_y hs (Y_assign rfl ?_)
      refine O_nil (T_sub [(4, _)] ⟨rfl, trivial⟩ ?_)
      refine T_ret ?_
      refine Rt_fin (vs := [_]) Tryz.results79 rfl ⟨rfl, trivial⟩ ?_
      try dsimp only [tup]
      exact ⟨_, [], hs.done, rfl, _, rfl, any_t hk' hq⟩
  · -- h9: False
    dsimp only [cmpP] at h9
    refine O_nil (T_sub [(0, _), (1, _), (7, _), (8, _), (9, _)] ⟨rfl, rfl, rfl, rfl, rfl, trivial⟩ ?_)
    refine T_seq (T_condF rfl (T_exit ?_))
    refine T_seq (T_region rfl ?_)
    refine O_y hs (Y_assign rfl ?_)
    refine O_nil (T_sub [(4, _)] ⟨rfl, trivial⟩ ?_)
    refine T_ret ?_
    refine Rt_fin (vs := [_]) Tryz.results79 rfl ⟨rfl, trivial⟩ ?_
    try dsimp only [tup]
    obtain rfl : k = l.length := by omega
    rw [List.take_length] at hany
    exact ⟨_, [], hs.done, rfl, _, rfl, by rw [hany]; simp⟩

set_option maxHeartbeats 400000 in
set_option maxRecDepth 10000 in
theorem ifm_raw {G : Ghost} {v : Value} {l : List Mv} {p : Mv → Bool} {gf : Nat} {lb : List Value} {fnn : Func} (hl : Mvs G v l) (hn : l.length ≤ 1000000000) (hfn : Tryz.prog.funcs[gf]? = some fnn) (hbd : fnn.body.isSome = true) (hnm : (fnn.name == "runtime.NumGoroutine") = false) (hg : ∀ (G' : Ghost) (c : List Value) (a : Mv), a ∈ l → G.le G' → MvR G' c a → FnOk Tryz.prog gf (.agg c.toArray :: lb) G' [] fun r _ H' => H' = [] ∧ r = .bool (p a)) :
    FnOk Tryz.prog 80 [v, .func (.func gf) #[] lb.toArray] G [] fun r _ H' => H' = [] ∧ ∃ z : Int, r = .int .i64 z ∧ (0 ≤ z ↔ l.any p = true) := by
  obtain ⟨A, cap, rfl⟩ := hl.slice
  refine FnOk.of_T [(0, _), (1, _)] Tryz.func80 rfl Tryz.ntmps80 (by simp) rfl fun w0 hs => ?_
  have hl0 := hl
  refine T_seq (T_region rfl ?_)
  refine O_y hs (Y_assign rfl ?_)
  refine O_nil (T_sub [(0, _), (1, _)] ⟨rfl, rfl, trivial⟩ ?_)
  refine T_seq (T_seq (T_region rfl ?_))
  refine O_y hs (Y_move rfl ?_)
  refine O_y hs (Y_len Tryz.underlying87 rfl ?_)
  refine O_y hs (Y_move rfl ?_)
  refine O_nil (T_sub [(0, _), (1, _), (7, _), (8, _)] ⟨rfl, rfl, rfl, rfl, trivial⟩ ?_)
  refine T_block (T_loop (fun m E w => ∃ (k : Nat) (G' : Ghost), k ≤ l.length ∧ (l.take k).any p = false ∧ m = l.length - k ∧ E = ⟨[], [(0, (.slice A l.length cap)), (1, .func (.func gf) #[] lb.toArray), (7, .int .i64 ((l.length : Nat) : Int)), (8, .int .i64 (k : Int))]⟩ ∧ St ⟨w0, G, feet []⟩ G' [] w) (L := [(0, _), (1, _), (7, _), (8, _)]) ⟨rfl, rfl, rfl, rfl, trivial⟩ (⟨0, _, by omega, by simp, rfl, rfl, hs⟩) fun m E w hI => ?_)
  obtain ⟨k, G', hk, hany, rfl, rfl, hs⟩ := hI
  have hl := hl0.mono hs.le
  refine T_seq (T_region rfl ?_)
  refine O_y hs (Y_cmpS rfl rfl rfl (fun h9 => ?_) (fun h9 => ?_))
  · -- h9: True
    dsimp only [cmpP] at h9
    refine O_nil (T_sub [(0, _), (1, _), (7, _), (8, _), (9, _)] ⟨rfl, rfl, rfl, rfl, rfl, trivial⟩ ?_)
    refine T_seq (T_condT rfl (T_skip ?_))
    have hk' : k < l.length := by omega
    refine T_seq (T_block (T_seq (T_region rfl ?_)))
    refine O_y hs (Y_move rfl ?_)
    refine O_y hs (Y_assign rfl ?_)
    refine O_nil (T_sub [(0, _), (1, _), (5, _), (7, _), (8, _)] ⟨rfl, rfl, rfl, rfl, rfl, trivial⟩ ?_)
    refine T_seq (T_region rfl ?_)
    refine O_y hs (Y_move rfl ?_)
    refine O_y hs (Y_move rfl ?_)
    refine O_y hs (Y_move rfl ?_)
    refine O_y hs (Y_idxS hl k Tryz.underlying87 Tryz.sizeOf81 rfl rfl rfl (by omega) fun p14 cc hp hcl hcr => ?_)
    refine O_y hs (Y_ldAG Tryz.isAgg81 Tryz.sizeOf81 rfl hp hcl ?_)
    obtain ⟨q, hq⟩ : ∃ q, p l[k] = q := ⟨_, rfl⟩
    refine O_s (S_callV (args := [_]) (lb := lb) (H1 := []) hs rfl rfl hfn hbd hnm (hg _ _ _ (List.getElem_mem hk') hs.le hcr) fun v1 G' H' _ hR hG16 hs => ?_)
    obtain ⟨rfl, rfl⟩ := hR
    replace hs : St _ _ [] _ := hs
    rw [hq]
    replace hl := hl.mono hG16
    cases q
    · -- q: False
      refine O_nil (T_sub [(0, _), (1, _), (5, _), (7, _), (8, _), (16, _)] ⟨rfl, rfl, rfl, rfl, rfl, rfl, trivial⟩ ?_)
      refine T_condF rfl (T_skip ?_)
      refine T_region rfl ?_
      refine O_y hs (Y_add rfl rfl rfl (by omega) ?_)
      refine O_y hs (Y_move rfl ?_)
      refine O_nil ⟨_, ?_, [(0, _), (1, _), (7, _), (8, _)], ⟨rfl, rfl, rfl, rfl, trivial⟩, ⟨k + 1, _, by omega, any_step hk' hany hq, rfl, rfl, hs⟩⟩
      omega
    · -- q: True
      refine O_nil (T_sub [(0, _), (1, _), (5, _), (7, _), (8, _), (16, _)] ⟨rfl, rfl, rfl, rfl, rfl, rfl, trivial⟩ ?_)
      refine T_condT rfl (T_seq (T_region rfl ?_))
      refine O_y hs (Y_move rfl ?_)
      refine O_y hs (Y_assign rfl ?_)
      refine O_nil (T_sub [(4, _)] ⟨rfl, trivial⟩ ?_)
      refine T_ret ?_
      refine Rt_fin (vs := [_]) Tryz.results80 rfl ⟨rfl, trivial⟩ ?_
      try dsimp only [tup]
      exact ⟨_, [], hs.done, rfl, _, rfl, any_t hk' hq⟩
  · -- h9: False
    dsimp only [cmpP] at h9
    refine O_nil (T_sub [(0, _), (1, _), (7, _), (8, _), (9, _)] ⟨rfl, rfl, rfl, rfl, rfl, trivial⟩ ?_)
    refine T_seq (T_condF rfl (T_exit ?_))
    refine T_seq (T_region rfl ?_)
    refine O_y hs (Y_assign rfl ?_)
    refine O_nil (T_sub [(4, _)] ⟨rfl, trivial⟩ ?_)
    refine T_ret ?_
    refine Rt_fin (vs := [_]) Tryz.results80 rfl ⟨rfl, trivial⟩ ?_
    try dsimp only [tup]
    obtain rfl : k = l.length := by omega
    rw [List.take_length] at hany
    exact ⟨_, [], hs.done, rfl, _, rfl, by rw [hany]; simp⟩

theorem dec_any {α : Type} {l : List α} {p : α → Bool} {z : Int} (h : 0 ≤ z ↔ l.any p = true) (q : Bool) (hq : q = true ↔ 0 ≤ z) : q = l.any p := by
  rw [Bool.eq_iff_iff, hq, h]


set_option maxHeartbeats 400000 in
set_option maxRecDepth 10000 in
theorem cfp_ok {G : Ghost} {v : Value} {l : List Pc} {p : Pc → Bool} {gf : Nat} {lb : List Value} {fnn : Func} (hl : Pcs G v l) (hn : l.length ≤ 1000000000) (hfn : Tryz.prog.funcs[gf]? = some fnn) (hbd : fnn.body.isSome = true) (hnm : (fnn.name == "runtime.NumGoroutine") = false) (hg : ∀ (G' : Ghost) (c : List Value) (a : Pc), a ∈ l → G.le G' → PcR G' c a → FnOk Tryz.prog gf (.agg c.toArray :: lb) G' [] fun r _ H' => H' = [] ∧ r = .bool (p a)) :
    FnOk Tryz.prog 47 [v, .func (.func gf) #[] lb.toArray] G [] fun r _ H' => H' = [] ∧ r = .bool (l.any p) := by
  obtain ⟨A, cap, rfl⟩ := hl.slice
  refine FnOk.of_T [(0, _), (1, _)] Tryz.func47 rfl Tryz.ntmps47 (by simp) rfl fun w0 hs => ?_
  have hl0 := hl
  refine T_seq (T_region rfl ?_)
  refine O_y hs (Y_assign rfl ?_)
  refine O_nil (T_sub [(0, _), (1, _)] ⟨rfl, rfl, trivial⟩ ?_)
  refine T_seq (T_region rfl ?_)
  refine O_y hs (Y_move rfl ?_)
  refine O_y hs (Y_move rfl ?_)
  refine O_s (S_call (H1 := []) hs rfl Tryz.func79 rfl (by kernel_rfl) (ifp_raw hl hn hfn hbd hnm (fun G' c a ha hG hr => hg G' c a ha (Ghost.le.trans hs.le hG) hr)) fun v1 G' H' _ hR hG7 hs => ?_)
  obtain ⟨rfl, z, rfl, hz⟩ := hR
  replace hs : St _ _ [] _ := hs
  replace hl := hl.mono hG7
  refine O_y hs (Y_cmpS rfl rfl rfl (fun h8 => ?_) (fun h8 => ?_))
  · -- h8: True
    dsimp only [cmpP] at h8
    refine O_y hs (Y_assign rfl ?_)
    refine O_nil (T_sub [(4, _)] ⟨rfl, trivial⟩ ?_)
    refine T_ret ?_
    refine Rt_fin (vs := [_]) Tryz.results47 rfl ⟨rfl, trivial⟩ ?_
    try dsimp only [tup]
    exact ⟨_, [], hs.done, rfl, congrArg Value.bool (dec_any hz true (by constructor <;> intro <;> first | omega | simp_all))⟩
  · -- h8: False
    dsimp only [cmpP] at h8
    refine O_y hs (Y_assign rfl ?_)
    refine O_nil (T_sub [(4, _)] ⟨rfl, trivial⟩ ?_)
    refine T_ret ?_
    refine Rt_fin (vs := [_]) Tryz.results47 rfl ⟨rfl, trivial⟩ ?_
    try dsimp only [tup]
    exact ⟨_, [], hs.done, rfl, congrArg Value.bool (dec_any hz false (by constructor <;> intro <;> first | omega | simp_all))⟩

set_option maxHeartbeats 400000 in
set_option maxRecDepth 10000 in
theorem cfm_ok {G : Ghost} {v : Value} {l : List Mv} {p : Mv → Bool} {gf : Nat} {lb : List Value} {fnn : Func} (hl : Mvs G v l) (hn : l.length ≤ 1000000000) (hfn : Tryz.prog.funcs[gf]? = some fnn) (hbd : fnn.body.isSome = true) (hnm : (fnn.name == "runtime.NumGoroutine") = false) (hg : ∀ (G' : Ghost) (c : List Value) (a : Mv), a ∈ l → G.le G' → MvR G' c a → FnOk Tryz.prog gf (.agg c.toArray :: lb) G' [] fun r _ H' => H' = [] ∧ r = .bool (p a)) :
    FnOk Tryz.prog 49 [v, .func (.func gf) #[] lb.toArray] G [] fun r _ H' => H' = [] ∧ r = .bool (l.any p) := by
  obtain ⟨A, cap, rfl⟩ := hl.slice
  refine FnOk.of_T [(0, _), (1, _)] Tryz.func49 rfl Tryz.ntmps49 (by simp) rfl fun w0 hs => ?_
  have hl0 := hl
  refine T_seq (T_region rfl ?_)
  refine O_y hs (Y_assign rfl ?_)
  refine O_nil (T_sub [(0, _), (1, _)] ⟨rfl, rfl, trivial⟩ ?_)
  refine T_seq (T_region rfl ?_)
  refine O_y hs (Y_move rfl ?_)
  refine O_y hs (Y_move rfl ?_)
  refine O_s (S_call (H1 := []) hs rfl Tryz.func80 rfl (by kernel_rfl) (ifm_raw hl hn hfn hbd hnm (fun G' c a ha hG hr => hg G' c a ha (Ghost.le.trans hs.le hG) hr)) fun v1 G' H' _ hR hG7 hs => ?_)
  obtain ⟨rfl, z, rfl, hz⟩ := hR
  replace hs : St _ _ [] _ := hs
  replace hl := hl.mono hG7
  refine O_y hs (Y_cmpS rfl rfl rfl (fun h8 => ?_) (fun h8 => ?_))
  · -- h8: True
    dsimp only [cmpP] at h8
    refine O_y hs (Y_assign rfl ?_)
    refine O_nil (T_sub [(4, _)] ⟨rfl, trivial⟩ ?_)
    refine T_ret ?_
    refine Rt_fin (vs := [_]) Tryz.results49 rfl ⟨rfl, trivial⟩ ?_
    try dsimp only [tup]
    exact ⟨_, [], hs.done, rfl, congrArg Value.bool (dec_any hz true (by constructor <;> intro <;> first | omega | simp_all))⟩
  · -- h8: False
    dsimp only [cmpP] at h8
    refine O_y hs (Y_assign rfl ?_)
    refine O_nil (T_sub [(4, _)] ⟨rfl, trivial⟩ ?_)
    refine T_ret ?_
    refine Rt_fin (vs := [_]) Tryz.results49 rfl ⟨rfl, trivial⟩ ?_
    try dsimp only [tup]
    exact ⟨_, [], hs.done, rfl, congrArg Value.bool (dec_any hz false (by constructor <;> intro <;> first | omega | simp_all))⟩

set_option maxHeartbeats 400000 in
set_option maxRecDepth 10000 in
theorem bad1_ok {G : Ghost} {c : List Value} {m : Mv} {n bn : Nat} (hm : MvR G c m) (hml : m.2.length ≤ 1000000000) (hbn : Cell G bn (.int .i64 (n : Int))) :
    FnOk Tryz.prog 46 [.agg c.toArray, .pointer (some ⟨bn, 0, none⟩)] G [] fun r _ H' => H' = [] ∧ r = .bool (badM (n : Int) m) := by
  obtain ⟨to, l⟩ := m
  obtain ⟨v, rfl, hl⟩ := hm
  obtain ⟨A, cap, rfl⟩ := hl.slice
  replace hl : Pcs G _ l := hl
  dsimp only at hml
  refine FnOk.of_T [(0, _), (1, _)] Tryz.func46 rfl Tryz.ntmps46 (by simp) rfl fun w0 hs => ?_
  have hl0 := hl
  have hbn0 := hbn
  refine T_seq (T_region rfl ?_)
  refine O_s (S_box hs rfl (cs := [_, _]) rfl fun b2 _ hs => ?_)
  refine O_y hs (Y_assign rfl ?_)
  refine O_nil (T_sub [(1, _), (2, _)] ⟨rfl, rfl, trivial⟩ ?_)
  refine T_seq (T_region rfl ?_)
  refine O_y hs (Y_fieldAddr FO81_0 rfl (m := 0) rfl ?_)
  refine O_y hs (Y_ld 0 Tryz.isAgg3 rfl rfl rfl ?_)
  refine O_y hs (Y_cmpS rfl rfl rfl (fun h6 => ?_) (fun h6 => ?_))
  · -- h6: True
    dsimp only [cmpP] at h6
    refine O_y hs (Y_move rfl ?_)
    refine O_no 7 rfl rfl ?_
    refine O_no 7 rfl rfl ?_
    refine O_no 7 rfl rfl ?_
    refine O_no 7 rfl rfl ?_
    refine O_y hs (Y_pickT rfl rfl ?_)
    refine O_y hs (Y_move rfl ?_)
    refine O_no 13 rfl rfl ?_
    refine O_no 13 rfl rfl ?_
    refine O_no 13 rfl rfl ?_
    refine O_no 13 rfl rfl ?_
    refine O_y hs (Y_pickT rfl rfl ?_)
    refine O_y hs (Y_move rfl ?_)
    refine O_no 19 rfl rfl ?_
    refine O_no 19 rfl rfl ?_
    refine O_no 19 rfl rfl ?_
    refine O_no 19 rfl rfl ?_
    refine O_noU 23 rfl rfl ?_
    refine O_noU 23 rfl rfl ?_
    refine O_noU 23 rfl rfl ?_
    refine O_noU 23 rfl rfl ?_
    refine O_no 19 rfl rfl ?_
    refine O_y hs (Y_pickT rfl rfl ?_)
    refine O_y hs (Y_move rfl ?_)
    refine O_no 30 rfl rfl ?_
    refine O_no 30 rfl rfl ?_
    refine O_no 30 rfl rfl ?_
    refine O_y hs (Y_pickT rfl rfl ?_)
    refine O_y hs (Y_assign rfl ?_)
    refine O_nil (T_sub [(3, _)] ⟨rfl, trivial⟩ ?_)
    refine T_ret ?_
    refine Rt_fin (vs := [_]) Tryz.results46 rfl ⟨rfl, trivial⟩ ?_
    try dsimp only [tup]
    exact ⟨_, [], hs.done, rfl, congrArg Value.bool (by simp only [badM]; simp_all <;> omega)⟩
  · -- h6: False
    dsimp only [cmpP] at h6
    refine O_y hs (Y_move rfl ?_)
    refine O_yy 7 hs rfl rfl (Y_fieldAddr FO81_0 rfl (m := 0) rfl ?_)
    refine O_yy 7 hs rfl rfl (Y_ld 0 Tryz.isAgg3 rfl rfl rfl ?_)
    refine O_yy 7 hs rfl rfl (Y_ldG Tryz.isAgg3 rfl (hbn) ?_)
    refine O_yy 7 hs rfl rfl (Y_cmpS rfl rfl rfl (fun h11 => ?_) (fun h11 => ?_))
    · -- h11: True
      dsimp only [cmpP] at h11
      refine O_y hs (Y_pickF rfl rfl ?_)
      refine O_y hs (Y_move rfl ?_)
      refine O_no 13 rfl rfl ?_
      refine O_no 13 rfl rfl ?_
      refine O_no 13 rfl rfl ?_
      refine O_no 13 rfl rfl ?_
      refine O_y hs (Y_pickT rfl rfl ?_)
      refine O_y hs (Y_move rfl ?_)
      refine O_no 19 rfl rfl ?_
      refine O_no 19 rfl rfl ?_
      refine O_no 19 rfl rfl ?_
      refine O_no 19 rfl rfl ?_
      refine O_noU 23 rfl rfl ?_
      refine O_noU 23 rfl rfl ?_
      refine O_noU 23 rfl rfl ?_
      refine O_noU 23 rfl rfl ?_
      refine O_no 19 rfl rfl ?_
      refine O_y hs (Y_pickT rfl rfl ?_)
      refine O_y hs (Y_move rfl ?_)
      refine O_no 30 rfl rfl ?_
      refine O_no 30 rfl rfl ?_
      refine O_no 30 rfl rfl ?_
      refine O_y hs (Y_pickT rfl rfl ?_)
      refine O_y hs (Y_assign rfl ?_)
      refine O_nil (T_sub [(3, _)] ⟨rfl, trivial⟩ ?_)
      refine T_ret ?_
      refine Rt_fin (vs := [_]) Tryz.results46 rfl ⟨rfl, trivial⟩ ?_
      try dsimp only [tup]
      exact ⟨_, [], hs.done, rfl, congrArg Value.bool (by simp only [badM]; simp_all <;> omega)⟩
    · -- h11: False
      dsimp only [cmpP] at h11
      refine O_y hs (Y_pickF rfl rfl ?_)
      refine O_y hs (Y_move rfl ?_)
      refine O_yy 13 hs rfl rfl (Y_fieldAddr FO81_1 rfl (m := 1) rfl ?_)
      refine O_yy 13 hs rfl rfl (Y_ld 0 Tryz.isAgg79 rfl rfl rfl ?_)
      refine O_yy 13 hs rfl rfl (Y_len Tryz.underlying79 rfl ?_)
      refine O_yy 13 hs rfl rfl (Y_cmpS rfl rfl rfl (fun h17 => ?_) (fun h17 => ?_))
      · -- h17: True
        dsimp only [cmpP] at h17
        refine O_y hs (Y_pickF rfl rfl ?_)
        refine O_y hs (Y_move rfl ?_)
        refine O_no 19 rfl rfl ?_
        refine O_no 19 rfl rfl ?_
        refine O_no 19 rfl rfl ?_
        refine O_no 19 rfl rfl ?_
        refine O_noU 23 rfl rfl ?_
        refine O_noU 23 rfl rfl ?_
        refine O_noU 23 rfl rfl ?_
        refine O_noU 23 rfl rfl ?_
        refine O_no 19 rfl rfl ?_
        refine O_y hs (Y_pickT rfl rfl ?_)
        refine O_y hs (Y_move rfl ?_)
        refine O_no 30 rfl rfl ?_
        refine O_no 30 rfl rfl ?_
        refine O_no 30 rfl rfl ?_
        refine O_y hs (Y_pickT rfl rfl ?_)
        refine O_y hs (Y_assign rfl ?_)
        refine O_nil (T_sub [(3, _)] ⟨rfl, trivial⟩ ?_)
        refine T_ret ?_
        refine Rt_fin (vs := [_]) Tryz.results46 rfl ⟨rfl, trivial⟩ ?_
        try dsimp only [tup]
        exact ⟨_, [], hs.done, rfl, congrArg Value.bool (by simp only [badM]; simp_all <;> omega)⟩
      · -- h17: False
        dsimp only [cmpP] at h17
        refine O_y hs (Y_pickF rfl rfl ?_)
        refine O_y hs (Y_move rfl ?_)
        refine O_yy 19 hs rfl rfl (Y_fieldAddr FO81_0 rfl (m := 0) rfl ?_)
        refine O_yy 19 hs rfl rfl (Y_ld 0 Tryz.isAgg3 rfl rfl rfl ?_)
        refine O_yy 19 hs rfl rfl (Y_cmpS rfl rfl rfl (fun h22 => ?_) (fun h22 => ?_))
        · -- h22: True
          dsimp only [cmpP] at h22
          refine O_yy 19 hs rfl rfl (Y_move rfl ?_)
          refine O_yy 23 hs rfl rfl (Y_fieldAddr FO81_1 rfl (m := 1) rfl ?_)
          refine O_yy 23 hs rfl rfl (Y_ld 0 Tryz.isAgg79 rfl rfl rfl ?_)
          refine O_yy 23 hs rfl rfl (Y_len Tryz.underlying79 rfl ?_)
          refine O_yy 23 hs rfl rfl (Y_cmpS rfl rfl rfl (fun h27 => ?_) (fun h27 => ?_))
          · -- h27: True
            dsimp only [cmpP] at h27
            refine O_yy 19 hs rfl rfl (Y_pickT rfl rfl ?_)
            refine O_y hs (Y_pickF rfl rfl ?_)
            refine O_y hs (Y_move rfl ?_)
            refine O_no 30 rfl rfl ?_
            refine O_no 30 rfl rfl ?_
            refine O_no 30 rfl rfl ?_
            refine O_y hs (Y_pickT rfl rfl ?_)
            refine O_y hs (Y_assign rfl ?_)
            refine O_nil (T_sub [(3, _)] ⟨rfl, trivial⟩ ?_)
            refine T_ret ?_
            refine Rt_fin (vs := [_]) Tryz.results46 rfl ⟨rfl, trivial⟩ ?_
            try dsimp only [tup]
            exact ⟨_, [], hs.done, rfl, congrArg Value.bool (by simp only [badM]; simp_all <;> omega)⟩
          · -- h27: False
            dsimp only [cmpP] at h27
            refine O_yy 19 hs rfl rfl (Y_pickT rfl rfl ?_)
            refine O_y hs (Y_pickF rfl rfl ?_)
            refine O_y hs (Y_move rfl ?_)
            refine O_yy 30 hs rfl rfl (Y_fieldAddr FO81_1 rfl (m := 1) rfl ?_)
            refine O_yy 30 hs rfl rfl (Y_ld 0 Tryz.isAgg79 rfl rfl rfl ?_)
            refine O_yes 30 rfl rfl (S_call (H1 := []) hs rfl Tryz.func47 rfl (by kernel_rfl) (cfp_ok (p := badP) (lb := []) hl hml Tryz.func48 rfl (by kernel_rfl) (fun _ _ a _ _ hr => by rw [show _ = _ from hr]; exact bad2_ok)) fun v1 G' H' _ hR hG33 hs => ?_)
            obtain ⟨rfl, rfl⟩ := hR
            replace hs : St _ _ [_] _ := hs
            replace hl := hl.mono hG33
            replace hbn := hbn.mono hG33
            obtain ⟨q, hq⟩ : ∃ q, l.any badP = q := ⟨_, rfl⟩
            refine O_y hs (Y_pickF rfl rfl ?_)
            refine O_y hs (Y_assign rfl ?_)
            refine O_nil (T_sub [(3, _)] ⟨rfl, trivial⟩ ?_)
            refine T_ret ?_
            refine Rt_fin (vs := [_]) Tryz.results46 rfl ⟨rfl, trivial⟩ ?_
            try dsimp only [tup]
            exact ⟨_, [], hs.done, rfl, congrArg Value.bool (by simp only [badM]; simp_all <;> omega)⟩
        · -- h22: False
          dsimp only [cmpP] at h22
          refine O_yy 19 hs rfl rfl (Y_move rfl ?_)
          refine O_no 23 rfl rfl ?_
          refine O_no 23 rfl rfl ?_
          refine O_no 23 rfl rfl ?_
          refine O_no 23 rfl rfl ?_
          refine O_yy 19 hs rfl rfl (Y_pickF rfl rfl ?_)
          refine O_y hs (Y_pickF rfl rfl ?_)
          refine O_y hs (Y_move rfl ?_)
          refine O_yy 30 hs rfl rfl (Y_fieldAddr FO81_1 rfl (m := 1) rfl ?_)
          refine O_yy 30 hs rfl rfl (Y_ld 0 Tryz.isAgg79 rfl rfl rfl ?_)
          refine O_yes 30 rfl rfl (S_call (H1 := []) hs rfl Tryz.func47 rfl (by kernel_rfl) (cfp_ok (p := badP) (lb := []) hl hml Tryz.func48 rfl (by kernel_rfl) (fun _ _ a _ _ hr => by rw [show _ = _ from hr]; exact bad2_ok)) fun v2 G' H' _ hR hG33 hs => ?_)
          obtain ⟨rfl, rfl⟩ := hR
          replace hs : St _ _ [_] _ := hs
          replace hl := hl.mono hG33
          replace hbn := hbn.mono hG33
          obtain ⟨q, hq⟩ : ∃ q, l.any badP = q := ⟨_, rfl⟩
          refine O_y hs (Y_pickF rfl rfl ?_)
          refine O_y hs (Y_assign rfl ?_)
          refine O_nil (T_sub [(3, _)] ⟨rfl, trivial⟩ ?_)
          refine T_ret ?_
          refine Rt_fin (vs := [_]) Tryz.results46 rfl ⟨rfl, trivial⟩ ?_
          try dsimp only [tup]
          exact ⟨_, [], hs.done, rfl, congrArg Value.bool (by simp only [badM]; simp_all <;> omega)⟩

set_option maxHeartbeats 400000 in
set_option maxRecDepth 10000 in
theorem part_ok {G : Ghost} {v : Value} {l : List (List Nat)} (hl : Cls G v l) (hn : l.length ≤ 1000000000) :
    FnOk Tryz.prog 45 [v] G [] fun r _ H' => H' = [] ∧ r = .bool (partF l) := by
  obtain ⟨A, cap, rfl⟩ := hl.slice
  refine FnOk.of_T [(0, _)] Tryz.func45 rfl Tryz.ntmps45 (by simp) rfl fun w0 hs => ?_
  have hl0 := hl
  refine T_seq (T_region rfl ?_)
  refine O_y hs (Y_assign rfl ?_)
  refine O_nil (T_sub [(0, _)] ⟨rfl, trivial⟩ ?_)
  refine T_seq (T_region rfl ?_)
  refine O_s (S_alloc hs Tryz.zeroValue27 (cs := (List.map u64V [0, 0, 0, 0])) rfl fun b3 _ hs => ?_)
  refine O_nil (T_sub [(0, _), (3, _)] ⟨rfl, rfl, trivial⟩ ?_)
  refine T_seq (T_seq (T_region rfl ?_))
  refine O_y hs (Y_move rfl ?_)
  refine O_y hs (Y_len Tryz.underlying38 rfl ?_)
  refine O_y hs (Y_move rfl ?_)
  refine O_nil (T_sub [(3, _), (6, _), (7, _), (8, _)] ⟨rfl, rfl, rfl, rfl, trivial⟩ ?_)
  refine T_block (T_loop (fun m E w => ∃ (k : Nat) (all : List Nat) (G' : Ghost), k ≤ l.length ∧ partF l = partG (l.drop k) all ∧ all.length = 4 ∧ m = l.length - k ∧ E = ⟨[], [(3, .pointer (some ⟨b3, 0, none⟩)), (6, (.slice A l.length cap)), (7, .int .i64 ((l.length : Nat) : Int)), (8, .int .i64 (k : Int))]⟩ ∧ St ⟨w0, G, feet []⟩ G' [.blk b3 27 (List.map u64V all)] w) (L := [(3, _), (6, _), (7, _), (8, _)]) ⟨rfl, rfl, rfl, rfl, trivial⟩ (⟨0, [0, 0, 0, 0], _, by omega, rfl, rfl, rfl, rfl, hs⟩) fun m E w hI => ?_)
  obtain ⟨k, all, G', hk, hpt, ha4, rfl, rfl, hs⟩ := hI
  have hl := hl0.mono hs.le
  refine T_seq (T_region rfl ?_)
  refine O_y hs (Y_cmpS rfl rfl rfl (fun h9 => ?_) (fun h9 => ?_))
  · -- h9: True
    dsimp only [cmpP] at h9
    refine O_nil (T_sub [(3, _), (6, _), (7, _), (8, _), (9, _)] ⟨rfl, rfl, rfl, rfl, rfl, trivial⟩ ?_)
    refine T_seq (T_condT rfl (T_skip ?_))
    refine T_seq (T_block (T_seq (T_region rfl ?_)))
    refine O_y hs (Y_idxS hl k Tryz.underlying38 Tryz.sizeOf27 rfl rfl rfl (by omega) fun p10 cc hp10 hcl10 hcr10 => ?_)
    obtain ⟨rfl, h4, h64⟩ := hcr10
    refine O_y hs (Y_ldAG (vs := List.map u64V l[k]) Tryz.isAgg27 Tryz.sizeOf27 rfl hp10 hcl10 ?_)
    refine O_s (S_alloc hs Tryz.zeroValue27 (cs := (List.map u64V [0, 0, 0, 0])) rfl fun b5 _ hs => ?_)
    refine O_n (S_stW hs Tryz.sizeOf27 rfl rfl (vs := (List.map u64V l[k])) (by first | omega | (simp; omega) | simp) (by first | omega | (simp; omega) | simp) (u64_all _) fun _ hs => ?_)
    refine O_nil (T_sub [(3, _), (5, _), (6, _), (7, _), (8, _)] ⟨rfl, rfl, rfl, rfl, rfl, trivial⟩ ?_)
    refine T_seq (T_seq (T_region rfl ?_))
    refine O_y hs (Y_ldW 0 Tryz.isAgg27 Tryz.sizeOf27 rfl rfl (by first | omega | (simp; omega) | simp) ?_)
    refine O_s (S_call (H1 := []) hs rfl Tryz.func76 rfl (by kernel_rfl) (size_ok h4) fun v1 G' H' _ hR hG13 hs => ?_)
    obtain ⟨rfl, rfl⟩ := hR
    replace hs : St _ _ [_, _] _ := hs
    replace hl := hl.mono hG13
    refine O_y hs (Y_cmpS rfl rfl rfl (fun h14 => ?_) (fun h14 => ?_))
    · -- h14: True
      dsimp only [cmpP] at h14
      refine O_y hs (Y_move rfl ?_)
      refine O_no 15 rfl rfl ?_
      refine O_no 15 rfl rfl ?_
      refine O_no 15 rfl rfl ?_
      refine O_no 15 rfl rfl ?_
      refine O_no 15 rfl rfl ?_
      refine O_y hs (Y_pickT rfl rfl ?_)
      refine O_nil (T_sub [(3, _), (5, _), (6, _), (7, _), (8, _), (21, _)] ⟨rfl, rfl, rfl, rfl, rfl, rfl, trivial⟩ ?_)
      refine T_condT rfl (T_seq (T_region rfl ?_))
      refine O_y hs (Y_assign rfl ?_)
      refine O_nil (T_sub [(2, _)] ⟨rfl, trivial⟩ ?_)
      refine T_ret ?_
      refine Rt_fin (vs := [_]) Tryz.results45 rfl ⟨rfl, trivial⟩ ?_
      try dsimp only [tup]
      exact ⟨_, [], hs.done, rfl, congrArg Value.bool (by rw [hpt, part_step l k all (by omega), if_pos (by omega)])⟩
    · -- h14: False
      dsimp only [cmpP] at h14
      refine O_y hs (Y_move rfl ?_)
      refine O_yy 15 hs rfl rfl (Y_ldW 1 Tryz.isAgg27 Tryz.sizeOf27 rfl rfl (by first | omega | (simp; omega) | simp) ?_)
      refine O_yy 15 hs rfl rfl (Y_ldW 0 Tryz.isAgg27 Tryz.sizeOf27 rfl rfl (by first | omega | (simp; omega) | simp) ?_)
      refine O_yes 15 rfl rfl (S_call (H1 := []) hs rfl Tryz.func77 rfl (by kernel_rfl) (inter_ok ha4 h4) fun v2 G' H' _ hR hG18 hs => ?_)
      obtain ⟨rfl, rfl⟩ := hR
      replace hs : St _ _ [_, _] _ := hs
      replace hl := hl.mono hG18
      refine O_yes 15 rfl rfl (S_call (H1 := []) hs rfl Tryz.func76 rfl (by kernel_rfl) (size_ok (interF_len ha4 h4)) fun v3 G' H' _ hR hG19 hs => ?_)
      obtain ⟨rfl, rfl⟩ := hR
      replace hs : St _ _ [_, _] _ := hs
      replace hl := hl.mono hG19
      refine O_yy 15 hs rfl rfl (Y_cmpS rfl rfl rfl (fun h20 => ?_) (fun h20 => ?_))
      · -- h20: True
        dsimp only [cmpP] at h20
        refine O_y hs (Y_pickF rfl rfl ?_)
        refine O_nil (T_sub [(3, _), (5, _), (6, _), (7, _), (8, _), (21, _)] ⟨rfl, rfl, rfl, rfl, rfl, rfl, trivial⟩ ?_)
        refine T_condT rfl (T_seq (T_region rfl ?_))
        refine O_y hs (Y_assign rfl ?_)
        refine O_nil (T_sub [(2, _)] ⟨rfl, trivial⟩ ?_)
        refine T_ret ?_
        refine Rt_fin (vs := [_]) Tryz.results45 rfl ⟨rfl, trivial⟩ ?_
        try dsimp only [tup]
        exact ⟨_, [], hs.done, rfl, congrArg Value.bool (by rw [hpt, part_step l k all (by omega), if_pos (by omega)])⟩
      · -- h20: False
        dsimp only [cmpP] at h20
        refine O_y hs (Y_pickF rfl rfl ?_)
        refine O_nil (T_sub [(3, _), (5, _), (6, _), (7, _), (8, _), (21, _)] ⟨rfl, rfl, rfl, rfl, rfl, rfl, trivial⟩ ?_)
        refine T_condF rfl (T_skip ?_)
        refine T_region rfl ?_
        refine O_y hs (Y_ldW 1 Tryz.isAgg27 Tryz.sizeOf27 rfl rfl (by first | omega | (simp; omega) | simp) ?_)
        refine O_y hs (Y_ldW 0 Tryz.isAgg27 Tryz.sizeOf27 rfl rfl (by first | omega | (simp; omega) | simp) ?_)
        refine O_s (S_call (H1 := []) hs rfl Tryz.func78 rfl (by kernel_rfl) (union_ok ha4 h4) fun v4 G' H' _ hR hG24 hs => ?_)
        obtain ⟨rfl, rfl⟩ := hR
        replace hs : St _ _ [_, _] _ := hs
        replace hl := hl.mono hG24
        have hu4 := unionF_len ha4 h4
        have hs := hs.front 1 rfl (H' := [_, _]) rfl
        refine O_n (S_stW hs Tryz.sizeOf27 rfl rfl (vs := (List.map u64V (unionF all l[k]))) (by first | omega | (simp; omega) | simp) (by first | omega | (simp; omega) | simp) (u64_all _) fun _ hs => ?_)
        refine O_nil (T_sub [(3, _), (6, _), (7, _), (8, _)] ⟨rfl, rfl, rfl, rfl, trivial⟩ ?_)
        refine T_region rfl ?_
        refine O_y hs (Y_add (c := ((k + 1 : Nat) : Int)) rfl rfl (by omega) (by omega) ?_)
        refine O_y hs (Y_move rfl ?_)
        refine O_nil ⟨_, ?_, [(3, _), (6, _), (7, _), (8, _)], ⟨rfl, rfl, rfl, rfl, trivial⟩, ⟨k + 1, _, _, by omega, by rw [hpt, part_step l k all (by omega), if_neg (by omega)], hu4, rfl, rfl, hs.weak hs.le (Ghost.le.refl _) (List.sublist_append_left [_] _)⟩⟩
        omega
  · -- h9: False
    dsimp only [cmpP] at h9
    refine O_nil (T_sub [(3, _), (6, _), (7, _), (8, _), (9, _)] ⟨rfl, rfl, rfl, rfl, rfl, trivial⟩ ?_)
    refine T_seq (T_condF rfl (T_exit ?_))
    refine T_seq (T_region rfl ?_)
    refine O_y hs (Y_ldW 0 Tryz.isAgg27 Tryz.sizeOf27 rfl rfl (by first | omega | (simp; omega) | simp) ?_)
    refine O_s (S_call (H1 := []) hs rfl Tryz.func76 rfl (by kernel_rfl) (size_ok ha4) fun v5 G' H' _ hR hG27 hs => ?_)
    obtain ⟨rfl, rfl⟩ := hR
    replace hs : St _ _ [_] _ := hs
    replace hl := hl.mono hG27
    refine O_y hs (Y_cmpS rfl rfl rfl (fun h28 => ?_) (fun h28 => ?_))
    · -- h28: True
      dsimp only [cmpP] at h28
      refine O_y hs (Y_assign rfl ?_)
      refine O_nil (T_sub [(2, _)] ⟨rfl, trivial⟩ ?_)
      refine T_ret ?_
      refine Rt_fin (vs := [_]) Tryz.results45 rfl ⟨rfl, trivial⟩ ?_
      try dsimp only [tup]
      obtain rfl : k = l.length := by omega
      exact ⟨_, [], hs.done, rfl, congrArg Value.bool (by rw [hpt, part_end, eq_comm]; first | exact decide_eq_true (by omega) | exact decide_eq_false (by omega))⟩
    · -- h28: False
      dsimp only [cmpP] at h28
      refine O_y hs (Y_assign rfl ?_)
      refine O_nil (T_sub [(2, _)] ⟨rfl, trivial⟩ ?_)
      refine T_ret ?_
      refine Rt_fin (vs := [_]) Tryz.results45 rfl ⟨rfl, trivial⟩ ?_
      try dsimp only [tup]
      obtain rfl : k = l.length := by omega
      exact ⟨_, [], hs.done, rfl, congrArg Value.bool (by rw [hpt, part_end, eq_comm]; first | exact decide_eq_true (by omega) | exact decide_eq_false (by omega))⟩

set_option maxHeartbeats 400000 in
set_option maxRecDepth 10000 in
theorem writ_ok {G : Ghost} {v : Value} {l : List Pc} {b : UInt8} (hl : Pcs G v l) (hn : l.length ≤ 1000000000) :
    FnOk Tryz.prog 51 [v, .int .u8 (b.toNat : Int)] G [] fun r G' H' => H' = [] ∧ Bytes G' r (writF l b) := by
  obtain ⟨A, cap, rfl⟩ := hl.slice
  refine FnOk.of_T [(0, _), (1, _)] Tryz.func51 rfl Tryz.ntmps51 (by simp) rfl fun w0 hs => ?_
  have hl0 := hl
  refine T_seq (T_region rfl ?_)
  refine O_y hs (Y_assign rfl ?_)
  refine O_nil (T_sub [(0, _), (1, _)] ⟨rfl, rfl, trivial⟩ ?_)
  refine T_seq (T_region rfl ?_)
  refine O_y hs (Y_move rfl ?_)
  refine O_y hs (Y_len Tryz.underlying79 rfl ?_)
  refine O_s (S_make (n := l.length) (m := l.length) hs Tryz.underlying22 TI5 rfl rfl rfl (by omega) (by omega) (by omega) fun b10 _ hs => ?_)
  refine O_y hs (Y_assign rfl ?_)
  refine O_nil (T_sub [(0, _), (1, _), (5, _)] ⟨rfl, rfl, rfl, trivial⟩ ?_)
  refine T_seq (T_seq (T_region rfl ?_))
  refine O_y hs (Y_move rfl ?_)
  refine O_y hs (Y_len Tryz.underlying79 rfl ?_)
  refine O_y hs (Y_move rfl ?_)
  refine O_nil (T_sub [(1, _), (5, _), (11, _), (12, _), (13, _)] ⟨rfl, rfl, rfl, rfl, rfl, trivial⟩ ?_)
  refine T_block (T_loop (fun m E w => ∃ (k : Nat) (G' : Ghost), k ≤ l.length ∧ m = l.length - k ∧ E = ⟨[], [(1, .int .u8 (b.toNat : Int)), (5, .slice (some ⟨b10, 0, none⟩) l.length l.length), (11, (.slice A l.length cap)), (12, .int .i64 ((l.length : Nat) : Int)), (13, .int .i64 (k : Int))]⟩ ∧ St ⟨w0, G, feet []⟩ G' [.row 5 1 (.slice (some ⟨b10, 0, none⟩) l.length l.length) l.length ((writF (l.take k) b).map byteV ++ List.replicate (l.length - k) (Value.int .u8 0))] w) (L := [(1, _), (5, _), (11, _), (12, _), (13, _)]) ⟨rfl, rfl, rfl, rfl, rfl, trivial⟩ (⟨0, _, by omega, rfl, rfl, by simpa [writF] using hs⟩) fun m E w hI => ?_)
  obtain ⟨k, G', hk, rfl, rfl, hs⟩ := hI
  have hl := hl0.mono hs.le
  refine T_seq (T_region rfl ?_)
  refine O_y hs (Y_cmpS rfl rfl rfl (fun h14 => ?_) (fun h14 => ?_))
  · -- h14: True
    dsimp only [cmpP] at h14
    refine O_nil (T_sub [(1, _), (5, _), (11, _), (12, _), (13, _), (14, _)] ⟨rfl, rfl, rfl, rfl, rfl, rfl, trivial⟩ ?_)
    refine T_seq (T_condT rfl (T_skip ?_))
    refine T_seq (T_block (T_seq (T_region rfl ?_)))
    refine O_y hs (Y_move rfl ?_)
    refine O_y hs (Y_idxS hl k Tryz.underlying79 Tryz.sizeOf84 rfl rfl rfl (by omega) fun p16 cc hp16 hcl16 hcr16 => ?_)
    obtain rfl := hcr16
    refine O_y hs (Y_ldAG Tryz.isAgg84 Tryz.sizeOf84 rfl hp16 hcl16 ?_)
    refine O_s (S_alloc hs Tryz.zeroValue84 (cs := [_, _]) rfl fun b7 _ hs => ?_)
    refine O_y hs (Y_assign rfl ?_)
    refine O_n (S_stA hs Tryz.sizeOf84 rfl rfl (vs := [_, _]) rfl (rfl) (by simp) (cs' := [_, _]) rfl fun _ hs => ?_)
    refine O_nil (T_sub [(1, _), (5, _), (6, _), (7, _), (11, _), (12, _), (13, _)] ⟨rfl, rfl, rfl, rfl, rfl, rfl, rfl, trivial⟩ ?_)
    refine T_seq (T_region rfl ?_)
    refine O_y hs (Y_move rfl ?_)
    refine O_y hs (Y_move rfl ?_)
    refine O_y hs (Y_fieldAddr FO84_1 rfl (m := 1) rfl ?_)
    refine O_y hs (Y_ld 0 Tryz.isAgg5 rfl rfl rfl ?_)
    refine O_y hs (Y_idxRow (k) Tryz.underlying22 Tryz.sizeOf5 rfl rfl rfl (by omega) ?_)
    have hs := hs.front 1 rfl (H' := [_, _]) rfl
    refine O_n (S_stRow hs Tryz.sizeOf5 rfl rfl rfl (by omega) fun _ hs => ?_)
    refine O_nil (T_sub [(1, _), (5, _), (6, _), (7, _), (11, _), (12, _), (13, _)] ⟨rfl, rfl, rfl, rfl, rfl, rfl, rfl, trivial⟩ ?_)
    refine T_seq (T_region rfl ?_)
    refine O_y hs (Y_fieldAddr FO84_0 rfl (m := 0) rfl ?_)
    refine O_y hs (Y_ld 1 Tryz.isAgg4 rfl rfl rfl ?_)
    refine O_nil (T_sub [(1, _), (5, _), (6, _), (11, _), (12, _), (13, _), (24, _)] ⟨rfl, rfl, rfl, rfl, rfl, rfl, rfl, trivial⟩ ?_)
    refine T_condS rfl (fun hq => ?_) (fun hq => ?_)
    · -- True
      refine T_region rfl ?_
      refine O_y hs (Y_move rfl ?_)
      refine O_y hs (Y_move rfl ?_)
      refine O_y hs (Y_move rfl ?_)
      refine O_y hs (Y_idxRow (k) Tryz.underlying22 Tryz.sizeOf5 rfl rfl rfl (by omega) ?_)
      refine O_n (S_stRow hs Tryz.sizeOf5 rfl rfl rfl (by omega) fun _ hs => ?_)
      refine O_nil (T_sub [(1, _), (5, _), (11, _), (12, _), (13, _)] ⟨rfl, rfl, rfl, rfl, rfl, trivial⟩ ?_)
      refine T_region rfl ?_
      refine O_y hs (Y_add (c := ((k + 1 : Nat) : Int)) rfl rfl (by omega) (by omega) ?_)
      refine O_y hs (Y_move rfl ?_)
      refine O_nil ⟨_, ?_, [(1, _), (5, _), (11, _), (12, _), (13, _)], ⟨rfl, rfl, rfl, rfl, rfl, trivial⟩, ⟨k + 1, _, by omega, rfl, rfl, by rw [writF_snoc l k b (by omega), if_pos hq]; rw [wr_set (Value.int .u8 0) (by unfold writF; rw [List.length_map, List.length_take]; omega) (by omega)] at hs; exact hs.weak hs.le (Ghost.le.refl _) (List.sublist_append_left [_] _)⟩⟩
      omega
    · -- False
      refine T_skip ?_
      refine T_region rfl ?_
      refine O_y hs (Y_add (c := ((k + 1 : Nat) : Int)) rfl rfl (by omega) (by omega) ?_)
      refine O_y hs (Y_move rfl ?_)
      refine O_nil ⟨_, ?_, [(1, _), (5, _), (11, _), (12, _), (13, _)], ⟨rfl, rfl, rfl, rfl, rfl, trivial⟩, ⟨k + 1, _, by omega, rfl, rfl, by rw [writF_snoc l k b (by omega), if_neg (by simp [hq])]; rw [wr_step (Value.int .u8 0) (by unfold writF; rw [List.length_map, List.length_take]; omega) (by omega)] at hs; exact hs.weak hs.le (Ghost.le.refl _) (List.sublist_append_left [_] _)⟩⟩
      omega
  · -- h14: False
    dsimp only [cmpP] at h14
    refine O_nil (T_sub [(1, _), (5, _), (11, _), (12, _), (13, _), (14, _)] ⟨rfl, rfl, rfl, rfl, rfl, rfl, trivial⟩ ?_)
    refine T_seq (T_condF rfl (T_exit ?_))
    refine T_seq (T_region rfl ?_)
    refine O_y hs (Y_move rfl ?_)
    refine O_y hs (Y_assign rfl ?_)
    refine O_nil (T_sub [(4, _)] ⟨rfl, trivial⟩ ?_)
    refine T_ret ?_
    refine Rt_fin (vs := [_]) Tryz.results51 rfl ⟨rfl, trivial⟩ ?_
    try dsimp only [tup]
    obtain rfl : k = l.length := by omega
    obtain ⟨G', hG, hf, hs3⟩ := hs.fixRow noM
    exact ⟨G', [], hs3.done, rfl, Bytes.ofSl hf (by unfold writF; rw [List.length_map]) (by rw [List.take_length]; simp)⟩

set_option maxHeartbeats 400000 in
set_option maxRecDepth 10000 in
theorem cells_ok {G : Ghost} {v : Value} {l : List (List Nat)} (hl : Cls G v l) (hn : l.length ≤ 1000000000) (hT : Tab G) :
    FnOk Tryz.prog 50 [v] G [] fun r _ H' => H' = [] ∧ r = .agg ((cellF l).map (Value.int .i64)).toArray := by
  obtain ⟨A, cap, rfl⟩ := hl.slice
  refine FnOk.of_T [(0, _)] Tryz.func50 rfl Tryz.ntmps50 (by simp) rfl fun w0 hs => ?_
  have hl0 := hl
  have hT0 := hT
  refine T_seq (T_region rfl ?_)
  refine O_s (S_alloc hs Tryz.zeroValue89 (cs := (List.map (Value.int .i64) (List.replicate 256 0))) rfl fun b2 _ hs => ?_)
  refine O_nil (T_sub [(0, _), (2, _)] ⟨rfl, rfl, trivial⟩ ?_)
  refine T_seq (T_region rfl ?_)
  refine O_s (S_alloc hs Tryz.zeroValue89 (cs := (List.map (Value.int .i64) (List.replicate 256 0))) rfl fun b3 _ hs => ?_)
  refine O_nil (T_sub [(0, _), (2, _), (3, _)] ⟨rfl, rfl, rfl, trivial⟩ ?_)
  refine T_seq (T_seq (T_region rfl ?_))
  refine O_y hs (Y_move rfl ?_)
  refine O_y hs (Y_len Tryz.underlying38 rfl ?_)
  refine O_y hs (Y_move rfl ?_)
  refine O_nil (T_sub [(2, _), (3, _), (8, _), (9, _), (10, _)] ⟨rfl, rfl, rfl, rfl, rfl, trivial⟩ ?_)
  refine T_block (T_loop (fun m E w => ∃ (k : Nat) (arr : List Int) (G' : Ghost), k ≤ l.length ∧ cellF l = cellG k (l.drop k) arr ∧ arr.length = 256 ∧ m = l.length - k ∧ E = ⟨[], [(2, .pointer (some ⟨b2, 0, none⟩)), (3, .pointer (some ⟨b3, 0, none⟩)), (8, (.slice A l.length cap)), (9, .int .i64 ((l.length : Nat) : Int)), (10, .int .i64 (k : Int))]⟩ ∧ St ⟨w0, G, feet []⟩ G' [.blk b3 89 (List.map (Value.int .i64) arr), .blk b2 89 (List.map (Value.int .i64) (List.replicate 256 0))] w) (L := [(2, _), (3, _), (8, _), (9, _), (10, _)]) ⟨rfl, rfl, rfl, rfl, rfl, trivial⟩ (⟨0, List.replicate 256 0, _, by omega, rfl, List.length_replicate, rfl, rfl, hs⟩) fun m E w hI => ?_)
  obtain ⟨k, arr, G', hk, hcf, har, rfl, rfl, hs⟩ := hI
  have hl := hl0.mono hs.le
  have hT := hT0.mono hs.le
  refine T_seq (T_region rfl ?_)
  refine O_y hs (Y_cmpS rfl rfl rfl (fun h11 => ?_) (fun h11 => ?_))
  · -- h11: True
    dsimp only [cmpP] at h11
    refine O_nil (T_sub [(2, _), (3, _), (8, _), (9, _), (10, _), (11, _)] ⟨rfl, rfl, rfl, rfl, rfl, rfl, trivial⟩ ?_)
    refine T_seq (T_condT rfl (T_skip ?_))
    refine T_seq (T_block (T_seq (T_region rfl ?_)))
    refine O_y hs (Y_move rfl ?_)
    refine O_y hs (Y_idxS hl k Tryz.underlying38 Tryz.sizeOf27 rfl rfl rfl (by omega) fun p13 cc hp13 hcl13 hcr13 => ?_)
    obtain ⟨rfl, h4, h64⟩ := hcr13
    refine O_y hs (Y_ldAG (vs := List.map u64V l[k]) Tryz.isAgg27 Tryz.sizeOf27 rfl hp13 hcl13 ?_)
    refine O_s (S_alloc hs Tryz.zeroValue27 (cs := (List.map u64V [0, 0, 0, 0])) rfl fun b5 _ hs => ?_)
    refine O_y hs (Y_assign rfl ?_)
    refine O_n (S_stW hs Tryz.sizeOf27 rfl rfl (vs := (List.map u64V l[k])) (by first | omega | (simp; omega) | simp) (by first | omega | (simp; omega) | simp) (u64_all _) fun _ hs => ?_)
    refine O_nil (T_sub [(2, _), (3, _), (4, _), (5, _), (8, _), (9, _), (10, _)] ⟨rfl, rfl, rfl, rfl, rfl, rfl, rfl, trivial⟩ ?_)
    refine T_seq (T_region rfl ?_)
    refine O_y hs (Y_ldW 0 Tryz.isAgg27 Tryz.sizeOf27 rfl rfl (by first | omega | (simp; omega) | simp) ?_)
    refine O_s (S_call (H1 := []) hs rfl Tryz.func81 rfl (by kernel_rfl) (bytes_ok h4 h64 hT) fun v1 G' H' _ hR hG16 hs => ?_)
    obtain ⟨rfl, hbb⟩ := hR
    replace hs : St _ _ [_, _, _] _ := hs
    replace hl := hl.mono hG16
    replace hT := hT.mono hG16
    obtain ⟨A16, c16, rfl, _⟩ := id hbb
    have hb256 := bytesF_len h4 h64
    refine O_y hs (Y_len Tryz.underlying22 rfl ?_)
    refine O_y hs (Y_move rfl ?_)
    refine O_nil (T_sub [(2, _), (3, _), (4, _), (8, _), (9, _), (10, _), (16, _), (17, _), (18, _)] ⟨rfl, rfl, rfl, rfl, rfl, rfl, rfl, rfl, rfl, trivial⟩ ?_)
    have hs := hs.front 2 rfl (H' := [_, _, _]) rfl
    have hs := hs.front 2 rfl (H' := [_, _, _]) rfl
    refine T_block (T_loop (fun m E w => ∃ (j : Nat) (G' : Ghost), j ≤ (bytesF l[k]).length ∧ Bytes G' (.slice A16 (bytesF l[k]).length c16) (bytesF l[k]) ∧ m = (bytesF l[k]).length - j ∧ E = ⟨[], [(2, .pointer (some ⟨b2, 0, none⟩)), (3, .pointer (some ⟨b3, 0, none⟩)), (4, .int .i64 (k : Int)), (8, (.slice A l.length cap)), (9, .int .i64 ((l.length : Nat) : Int)), (10, .int .i64 (k : Int)), (16, (.slice A16 (bytesF l[k]).length c16)), (17, .int .i64 (((bytesF l[k]).length : Nat) : Int)), (18, .int .i64 (j : Int))]⟩ ∧ St ⟨w0, G, feet []⟩ G' [.blk b3 89 (List.map (Value.int .i64) (cellS k ((bytesF l[k]).take j) arr)), .blk b2 89 (List.map (Value.int .i64) (List.replicate 256 0))] w) (L := [(2, _), (3, _), (4, _), (8, _), (9, _), (10, _), (16, _), (17, _), (18, _)]) ⟨rfl, rfl, rfl, rfl, rfl, rfl, rfl, rfl, rfl, trivial⟩ (⟨0, _, by omega, hbb, rfl, rfl, hs.weak hs.le (Ghost.le.refl _) (List.sublist_append_left [_, _] _)⟩) fun m E w hI => ?_)
    obtain ⟨j, G', hj, hbb, rfl, rfl, hs⟩ := hI
    have hl := hl0.mono hs.le
    have hT := hT0.mono hs.le
    refine T_seq (T_region rfl ?_)
    refine O_y hs (Y_cmpS rfl rfl rfl (fun h19 => ?_) (fun h19 => ?_))
    · -- h19: True
      dsimp only [cmpP] at h19
      refine O_nil (T_sub [(2, _), (3, _), (4, _), (8, _), (9, _), (10, _), (16, _), (17, _), (18, _), (19, _)] ⟨rfl, rfl, rfl, rfl, rfl, rfl, rfl, rfl, rfl, rfl, trivial⟩ ?_)
      refine T_seq (T_condT rfl (T_skip ?_))
      refine T_seq (T_block (T_seq (T_region rfl ?_)))
      refine O_y hs (Y_idxB hbb j Tryz.underlying22 Tryz.sizeOf5 rfl rfl rfl (by omega) fun p20 hp20 => ?_)
      refine O_y hs (Y_ldG Tryz.isAgg5 rfl (hp20) ?_)
      refine O_y hs (Y_assign rfl ?_)
      refine O_nil (T_sub [(2, _), (3, _), (4, _), (7, _), (8, _), (9, _), (10, _), (16, _), (17, _), (18, _)] ⟨rfl, rfl, rfl, rfl, rfl, rfl, rfl, rfl, rfl, rfl, trivial⟩ ?_)
      refine T_region rfl ?_
      refine O_y hs (Y_move rfl ?_)
      refine O_y hs (Y_move rfl ?_)
      refine O_y hs (Y_idxArr' ((bytesF l[k])[j].toNat) Tryz.underlying89 Tryz.sizeOf3 rfl rfl rfl (by have := (bytesF l[k])[j].toNat_lt; omega) ?_)
      refine O_n (S_st hs Tryz.sizeOf3 rfl rfl rfl (by rw [List.length_map, cellS_len]; have := (bytesF l[k])[j].toNat_lt; omega) (cs' := List.map (Value.int .i64) (cellS k ((bytesF l[k]).take (j + 1)) arr)) (by rw [cellS_snoc k _ arr j (by omega), List.map_set]) fun _ hs => ?_)
      refine O_nil (T_sub [(2, _), (3, _), (4, _), (8, _), (9, _), (10, _), (16, _), (17, _), (18, _)] ⟨rfl, rfl, rfl, rfl, rfl, rfl, rfl, rfl, rfl, trivial⟩ ?_)
      refine T_region rfl ?_
      refine O_y hs (Y_add (c := ((j + 1 : Nat) : Int)) rfl rfl (by omega) (by omega) ?_)
      refine O_y hs (Y_move rfl ?_)
      refine O_nil ⟨_, ?_, [(2, _), (3, _), (4, _), (8, _), (9, _), (10, _), (16, _), (17, _), (18, _)], ⟨rfl, rfl, rfl, rfl, rfl, rfl, rfl, rfl, rfl, trivial⟩, ⟨j + 1, _, by omega, hbb, rfl, rfl, hs⟩⟩
      omega
    · -- h19: False
      dsimp only [cmpP] at h19
      refine O_nil (T_sub [(2, _), (3, _), (4, _), (8, _), (9, _), (10, _), (16, _), (17, _), (18, _), (19, _)] ⟨rfl, rfl, rfl, rfl, rfl, rfl, rfl, rfl, rfl, rfl, trivial⟩ ?_)
      refine T_seq (T_condF rfl (T_exit ?_))
      refine T_region rfl ?_
      refine O_y hs (Y_add (c := ((k + 1 : Nat) : Int)) rfl rfl (by omega) (by omega) ?_)
      refine O_y hs (Y_move rfl ?_)
      refine O_nil ⟨_, ?_, [(2, _), (3, _), (8, _), (9, _), (10, _)], ⟨rfl, rfl, rfl, rfl, rfl, trivial⟩, ⟨k + 1, cellS k (bytesF l[k]) arr, _, by omega, by rw [hcf, cell_step l k arr (by omega)], by rw [cellS_len]; exact har, rfl, rfl, by rw [List.take_of_length_le (by omega)] at hs; exact hs.weak hs.le (Ghost.le.refl _) (List.sublist_append_left [_, _] _)⟩⟩
      omega
  · -- h11: False
    dsimp only [cmpP] at h11
    refine O_nil (T_sub [(2, _), (3, _), (8, _), (9, _), (10, _), (11, _)] ⟨rfl, rfl, rfl, rfl, rfl, rfl, trivial⟩ ?_)
    refine T_seq (T_condF rfl (T_exit ?_))
    refine T_seq (T_region rfl ?_)
    refine O_y hs (Y_ldW 0 Tryz.isAgg89 Tryz.sizeOf89 rfl rfl (by first | omega | (simp; omega) | simp) ?_)
    have hs := hs.front 1 rfl (H' := [_, _]) rfl
    refine O_n (S_stW hs Tryz.sizeOf89 rfl rfl (vs := (List.map (Value.int .i64) arr)) (by first | omega | (simp; omega) | simp) (by first | omega | (simp; omega) | simp) (i64_all _) fun _ hs => ?_)
    refine O_nil (T_sub [(2, _)] ⟨rfl, trivial⟩ ?_)
    refine T_ret ?_
    have hr := hs
    refine Rt_fin (vs := [_]) Tryz.results50 rfl ⟨ResOk_blk 0 hr Tryz.isAgg89 Tryz.sizeOf89 rfl (cs := (List.map (Value.int .i64) arr)) rfl (by first | omega | (simp; omega) | simp), trivial⟩ ?_
    try dsimp only [tup]
    obtain rfl : k = l.length := by omega
    exact ⟨_, [], hs.done, rfl, by rw [hcf, List.drop_length]; rfl⟩

theorem part_eq {G : Ghost} {v : Value} {l : List (List Nat)} (q : Bool) (hq : partF l = q) (hl : Cls G v l) (hn : l.length ≤ 1000000000) :
    FnOk Tryz.prog 45 [v] G [] fun r _ H' => H' = [] ∧ r = .bool q := hq ▸ part_ok hl hn


theorem cfm_eq {G : Ghost} {v : Value} {l : List Mv} {n bn : Nat} (q : Bool) (hq : l.any (badM (n : Int)) = q) (hl : Mvs G v l) (hn : l.length ≤ 1000000000) (hs : ∀ m ∈ l, m.2.length ≤ 1000000000) (hbn : Cell G bn (.int .i64 (n : Int))) :
    FnOk Tryz.prog 49 [v, .func (.func 46) #[] #[.pointer (some ⟨bn, 0, none⟩)]] G [] fun r _ H' => H' = [] ∧ r = .bool q := hq ▸ cfm_ok (lb := [.pointer (some ⟨bn, 0, none⟩)]) hl hn Tryz.func46 rfl (by kernel_rfl) (fun _ _ a ha hG hr => bad1_ok hr (hs a ha) (hbn.mono hG))


set_option maxHeartbeats 400000 in
set_option maxRecDepth 10000 in
theorem valt_ok {G : Ghost} {v : Value} {t : Tr} (ht : TrR G v t) (hsm : TrSmall t) :
    FnOk Tryz.prog 19 [v] G [] fun r _ H' => H' = [] ∧ r = .bool (validT t) := by
  obtain ⟨v1, v2, v3, v4, rfl, h1, h2, h3, h4⟩ := ht
  obtain ⟨A1, c1, rfl⟩ := h1.slice
  obtain ⟨A2, c2, rfl⟩ := h2.slice
  obtain ⟨A3, c3, rfl⟩ := h3.slice
  obtain ⟨A4, c4, rfl⟩ := h4.slice
  obtain ⟨s1, s2, s3⟩ := hsm
  obtain ⟨pq, hpq⟩ : ∃ q, partF t.classes = q := ⟨_, rfl⟩
  refine FnOk.of_T [(0, _)] Tryz.func19 rfl Tryz.ntmps19 (by simp) rfl fun w0 hs => ?_
  have h10 := h1
  have h20 := h2
  have h30 := h3
  have h40 := h4
  refine T_seq (T_region rfl ?_)
  refine O_s (S_box hs rfl (cs := [_, _, _, _]) rfl fun b1 _ hs => ?_)
  refine O_y hs (Y_assign rfl ?_)
  refine O_nil (T_sub [(1, _)] ⟨rfl, trivial⟩ ?_)
  refine T_seq (T_region rfl ?_)
  refine O_y hs (Y_fieldAddr FO43_1 rfl (m := 1) rfl ?_)
  refine O_y hs (Y_ld 0 Tryz.isAgg39 rfl rfl rfl ?_)
  refine O_y hs (Y_len Tryz.underlying39 rfl ?_)
  refine O_s (S_alloc hs Tryz.zeroValue3 (cs := [_]) rfl fun b3 _ hs => ?_)
  refine O_n (S_st hs Tryz.sizeOf3 rfl rfl rfl (by simp) (cs' := [_]) rfl fun _ hs => ?_)
  refine O_nil (T_sub [(1, _), (3, _)] ⟨rfl, rfl, trivial⟩ ?_)
  refine T_seq (T_seq (T_region rfl ?_))
  refine O_y hs (Y_ld 0 Tryz.isAgg3 rfl rfl rfl ?_)
  refine O_y hs (Y_cmpS rfl rfl rfl (fun h11 => ?_) (fun h11 => ?_))
  · -- h11: True
    dsimp only [cmpP] at h11
    refine O_y hs (Y_move rfl ?_)
    refine O_no 12 rfl rfl ?_
    refine O_no 12 rfl rfl ?_
    refine O_y hs (Y_pickT rfl rfl ?_)
    refine O_y hs (Y_move rfl ?_)
    refine O_no 16 rfl rfl ?_
    refine O_no 16 rfl rfl ?_
    refine O_no 16 rfl rfl ?_
    refine O_no 16 rfl rfl ?_
    refine O_no 16 rfl rfl ?_
    refine O_y hs (Y_pickT rfl rfl ?_)
    refine O_y hs (Y_move rfl ?_)
    refine O_no 23 rfl rfl ?_
    refine O_no 23 rfl rfl ?_
    refine O_no 23 rfl rfl ?_
    refine O_no 23 rfl rfl ?_
    refine O_no 23 rfl rfl ?_
    refine O_y hs (Y_pickT rfl rfl ?_)
    refine O_y hs (Y_move rfl ?_)
    refine O_no 30 rfl rfl ?_
    refine O_no 30 rfl rfl ?_
    refine O_no 30 rfl rfl ?_
    refine O_no 30 rfl rfl ?_
    refine O_y hs (Y_pickT rfl rfl ?_)
    refine O_y hs (Y_move rfl ?_)
    refine O_no 36 rfl rfl ?_
    refine O_no 36 rfl rfl ?_
    refine O_no 36 rfl rfl ?_
    refine O_no 36 rfl rfl ?_
    refine O_y hs (Y_pickT rfl rfl ?_)
    refine O_nil (T_sub [(1, _), (3, _), (41, _)] ⟨rfl, rfl, rfl, trivial⟩ ?_)
    refine T_condT rfl (T_seq (T_region rfl ?_))
    refine O_y hs (Y_assign rfl ?_)
    refine O_nil (T_sub [(2, _)] ⟨rfl, trivial⟩ ?_)
    refine T_ret ?_
    refine Rt_fin (vs := [_]) Tryz.results19 rfl ⟨rfl, trivial⟩ ?_
    try dsimp only [tup]
    exact ⟨_, [], hs.done, rfl, congrArg Value.bool (by unfold validT; simp_all <;> omega)⟩
  · -- h11: False
    dsimp only [cmpP] at h11
    refine O_y hs (Y_move rfl ?_)
    refine O_yy 12 hs rfl rfl (Y_ld 0 Tryz.isAgg3 rfl rfl rfl ?_)
    refine O_yy 12 hs rfl rfl (Y_cmpS rfl rfl rfl (fun h14 => ?_) (fun h14 => ?_))
    · -- h14: True
      dsimp only [cmpP] at h14
      refine O_y hs (Y_pickF rfl rfl ?_)
      refine O_y hs (Y_move rfl ?_)
      refine O_no 16 rfl rfl ?_
      refine O_no 16 rfl rfl ?_
      refine O_no 16 rfl rfl ?_
      refine O_no 16 rfl rfl ?_
      refine O_no 16 rfl rfl ?_
      refine O_y hs (Y_pickT rfl rfl ?_)
      refine O_y hs (Y_move rfl ?_)
      refine O_no 23 rfl rfl ?_
      refine O_no 23 rfl rfl ?_
      refine O_no 23 rfl rfl ?_
      refine O_no 23 rfl rfl ?_
      refine O_no 23 rfl rfl ?_
      refine O_y hs (Y_pickT rfl rfl ?_)
      refine O_y hs (Y_move rfl ?_)
      refine O_no 30 rfl rfl ?_
      refine O_no 30 rfl rfl ?_
      refine O_no 30 rfl rfl ?_
      refine O_no 30 rfl rfl ?_
      refine O_y hs (Y_pickT rfl rfl ?_)
      refine O_y hs (Y_move rfl ?_)
      refine O_no 36 rfl rfl ?_
      refine O_no 36 rfl rfl ?_
      refine O_no 36 rfl rfl ?_
      refine O_no 36 rfl rfl ?_
      refine O_y hs (Y_pickT rfl rfl ?_)
      refine O_nil (T_sub [(1, _), (3, _), (41, _)] ⟨rfl, rfl, rfl, trivial⟩ ?_)
      refine T_condT rfl (T_seq (T_region rfl ?_))
      refine O_y hs (Y_assign rfl ?_)
      refine O_nil (T_sub [(2, _)] ⟨rfl, trivial⟩ ?_)
      refine T_ret ?_
      refine Rt_fin (vs := [_]) Tryz.results19 rfl ⟨rfl, trivial⟩ ?_
      try dsimp only [tup]
      exact ⟨_, [], hs.done, rfl, congrArg Value.bool (by unfold validT; simp_all <;> omega)⟩
    · -- h14: False
      dsimp only [cmpP] at h14
      refine O_y hs (Y_pickF rfl rfl ?_)
      refine O_y hs (Y_move rfl ?_)
      refine O_yy 16 hs rfl rfl (Y_fieldAddr FO43_2 rfl (m := 2) rfl ?_)
      refine O_yy 16 hs rfl rfl (Y_ld 1 Tryz.isAgg40 rfl rfl rfl ?_)
      refine O_yy 16 hs rfl rfl (Y_len Tryz.underlying40 rfl ?_)
      refine O_yy 16 hs rfl rfl (Y_ld 0 Tryz.isAgg3 rfl rfl rfl ?_)
      refine O_yy 16 hs rfl rfl (Y_cmpS rfl rfl rfl (fun h21 => ?_) (fun h21 => ?_))
      · -- h21: True
        dsimp only [cmpP] at h21
        refine O_y hs (Y_pickF rfl rfl ?_)
        refine O_y hs (Y_move rfl ?_)
        refine O_no 23 rfl rfl ?_
        refine O_no 23 rfl rfl ?_
        refine O_no 23 rfl rfl ?_
        refine O_no 23 rfl rfl ?_
        refine O_no 23 rfl rfl ?_
        refine O_y hs (Y_pickT rfl rfl ?_)
        refine O_y hs (Y_move rfl ?_)
        refine O_no 30 rfl rfl ?_
        refine O_no 30 rfl rfl ?_
        refine O_no 30 rfl rfl ?_
        refine O_no 30 rfl rfl ?_
        refine O_y hs (Y_pickT rfl rfl ?_)
        refine O_y hs (Y_move rfl ?_)
        refine O_no 36 rfl rfl ?_
        refine O_no 36 rfl rfl ?_
        refine O_no 36 rfl rfl ?_
        refine O_no 36 rfl rfl ?_
        refine O_y hs (Y_pickT rfl rfl ?_)
        refine O_nil (T_sub [(1, _), (3, _), (41, _)] ⟨rfl, rfl, rfl, trivial⟩ ?_)
        refine T_condT rfl (T_seq (T_region rfl ?_))
        refine O_y hs (Y_assign rfl ?_)
        refine O_nil (T_sub [(2, _)] ⟨rfl, trivial⟩ ?_)
        refine T_ret ?_
        refine Rt_fin (vs := [_]) Tryz.results19 rfl ⟨rfl, trivial⟩ ?_
        try dsimp only [tup]
        exact ⟨_, [], hs.done, rfl, congrArg Value.bool (by unfold validT; simp_all <;> omega)⟩
      · -- h21: False
        dsimp only [cmpP] at h21
        refine O_y hs (Y_pickF rfl rfl ?_)
        refine O_y hs (Y_move rfl ?_)
        refine O_yy 23 hs rfl rfl (Y_fieldAddr FO43_3 rfl (m := 3) rfl ?_)
        refine O_yy 23 hs rfl rfl (Y_ld 1 Tryz.isAgg41 rfl rfl rfl ?_)
        refine O_yy 23 hs rfl rfl (Y_len Tryz.underlying41 rfl ?_)
        refine O_yy 23 hs rfl rfl (Y_ld 0 Tryz.isAgg3 rfl rfl rfl ?_)
        refine O_yy 23 hs rfl rfl (Y_cmpS rfl rfl rfl (fun h28 => ?_) (fun h28 => ?_))
        · -- h28: True
          dsimp only [cmpP] at h28
          refine O_y hs (Y_pickF rfl rfl ?_)
          refine O_y hs (Y_move rfl ?_)
          refine O_no 30 rfl rfl ?_
          refine O_no 30 rfl rfl ?_
          refine O_no 30 rfl rfl ?_
          refine O_no 30 rfl rfl ?_
          refine O_y hs (Y_pickT rfl rfl ?_)
          refine O_y hs (Y_move rfl ?_)
          refine O_no 36 rfl rfl ?_
          refine O_no 36 rfl rfl ?_
          refine O_no 36 rfl rfl ?_
          refine O_no 36 rfl rfl ?_
          refine O_y hs (Y_pickT rfl rfl ?_)
          refine O_nil (T_sub [(1, _), (3, _), (41, _)] ⟨rfl, rfl, rfl, trivial⟩ ?_)
          refine T_condT rfl (T_seq (T_region rfl ?_))
          refine O_y hs (Y_assign rfl ?_)
          refine O_nil (T_sub [(2, _)] ⟨rfl, trivial⟩ ?_)
          refine T_ret ?_
          refine Rt_fin (vs := [_]) Tryz.results19 rfl ⟨rfl, trivial⟩ ?_
          try dsimp only [tup]
          exact ⟨_, [], hs.done, rfl, congrArg Value.bool (by unfold validT; simp_all <;> omega)⟩
        · -- h28: False
          dsimp only [cmpP] at h28
          refine O_y hs (Y_pickF rfl rfl ?_)
          refine O_y hs (Y_move rfl ?_)
          refine O_yy 30 hs rfl rfl (Y_fieldAddr FO43_0 rfl (m := 0) rfl ?_)
          refine O_yy 30 hs rfl rfl (Y_ld 1 Tryz.isAgg38 rfl rfl rfl ?_)
          refine O_yy 30 hs rfl rfl (Y_len Tryz.underlying38 rfl ?_)
          refine O_yy 30 hs rfl rfl (Y_cmpS rfl rfl rfl (fun h34 => ?_) (fun h34 => ?_))
          · -- h34: True
            dsimp only [cmpP] at h34
            refine O_y hs (Y_pickF rfl rfl ?_)
            refine O_y hs (Y_move rfl ?_)
            refine O_no 36 rfl rfl ?_
            refine O_no 36 rfl rfl ?_
            refine O_no 36 rfl rfl ?_
            refine O_no 36 rfl rfl ?_
            refine O_y hs (Y_pickT rfl rfl ?_)
            refine O_nil (T_sub [(1, _), (3, _), (41, _)] ⟨rfl, rfl, rfl, trivial⟩ ?_)
            refine T_condT rfl (T_seq (T_region rfl ?_))
            refine O_y hs (Y_assign rfl ?_)
            refine O_nil (T_sub [(2, _)] ⟨rfl, trivial⟩ ?_)
            refine T_ret ?_
            refine Rt_fin (vs := [_]) Tryz.results19 rfl ⟨rfl, trivial⟩ ?_
            try dsimp only [tup]
            exact ⟨_, [], hs.done, rfl, congrArg Value.bool (by unfold validT; simp_all <;> omega)⟩
          · -- h34: False
            dsimp only [cmpP] at h34
            refine O_y hs (Y_pickF rfl rfl ?_)
            refine O_y hs (Y_move rfl ?_)
            refine O_yy 36 hs rfl rfl (Y_fieldAddr FO43_0 rfl (m := 0) rfl ?_)
            refine O_yy 36 hs rfl rfl (Y_ld 1 Tryz.isAgg38 rfl rfl rfl ?_)
            refine O_yes 36 rfl rfl (S_call (H1 := []) hs rfl Tryz.func45 rfl (by kernel_rfl) (part_eq pq hpq h1 s1) fun v1 G' H' _ hR hG39 hs => ?_)
            obtain ⟨rfl, rfl⟩ := hR
            replace hs : St _ _ [_, _] _ := hs
            replace h1 := h1.mono hG39
            replace h2 := h2.mono hG39
            replace h3 := h3.mono hG39
            replace h4 := h4.mono hG39
            cases pq
            · -- pq: False
              refine O_yy 36 hs rfl rfl (Y_not rfl ?_)
              refine O_y hs (Y_pickF rfl rfl ?_)
              refine O_nil (T_sub [(1, _), (3, _), (41, _)] ⟨rfl, rfl, rfl, trivial⟩ ?_)
              refine T_condT rfl (T_seq (T_region rfl ?_))
              refine O_y hs (Y_assign rfl ?_)
              refine O_nil (T_sub [(2, _)] ⟨rfl, trivial⟩ ?_)
              refine T_ret ?_
              refine Rt_fin (vs := [_]) Tryz.results19 rfl ⟨rfl, trivial⟩ ?_
              try dsimp only [tup]
              exact ⟨_, [], hs.done, rfl, congrArg Value.bool (by unfold validT; simp_all <;> omega)⟩
            · -- pq: True
              refine O_yy 36 hs rfl rfl (Y_not rfl ?_)
              refine O_y hs (Y_pickF rfl rfl ?_)
              refine O_nil (T_sub [(1, _), (3, _), (41, _)] ⟨rfl, rfl, rfl, trivial⟩ ?_)
              refine T_condF rfl (T_skip ?_)
              refine T_seq (T_region rfl ?_)
              refine O_y hs (Y_makeFunc (vs := [_]) rfl ?_)
              refine O_y hs (Y_assign rfl ?_)
              refine O_nil (T_sub [(1, _), (4, _)] ⟨rfl, rfl, trivial⟩ ?_)
              refine T_seq (T_seq (T_region rfl ?_))
              refine O_y hs (Y_fieldAddr FO43_1 rfl (m := 1) rfl ?_)
              refine O_y hs (Y_ld 1 Tryz.isAgg39 rfl rfl rfl ?_)
              refine O_y hs (Y_len Tryz.underlying39 rfl ?_)
              refine O_y hs (Y_move rfl ?_)
              refine O_nil (T_sub [(1, _), (4, _), (44, _), (45, _), (46, _)] ⟨rfl, rfl, rfl, rfl, rfl, trivial⟩ ?_)
              obtain ⟨_, hGn, hcn0, hs2⟩ := hs.fixBlk (fun k _ => noMb k)
              have hcn : Cell _ b3 (.int .i64 (t.moves.length : Int)) := hcn0 0 _ rfl
              have hs := hs2
              replace h1 := h1.mono hGn
              replace h2 := h2.mono hGn
              replace h3 := h3.mono hGn
              replace h4 := h4.mono hGn
              refine T_block (T_loop (fun m E w => ∃ (k : Nat) (G' : Ghost), k ≤ t.moves.length ∧ rowsOk t.moves.length t.classes.length t.moves t.final t.ends = rowsOk t.moves.length t.classes.length (t.moves.drop k) (t.final.drop k) (t.ends.drop k) ∧ Cell G' b3 (.int .i64 (t.moves.length : Int)) ∧ m = t.moves.length - k ∧ E = ⟨[], [(1, .pointer (some ⟨b1, 0, none⟩)), (4, .func (.func 46) #[] #[.pointer (some ⟨b3, 0, none⟩)]), (44, .slice A2 t.moves.length c2), (45, .int .i64 ((t.moves.length : Nat) : Int)), (46, .int .i64 (k : Int))]⟩ ∧ St ⟨w0, G, feet []⟩ G' [.blk b1 43 [.slice A1 t.classes.length c1, .slice A2 t.moves.length c2, .slice A3 t.final.length c3, .slice A4 t.ends.length c4]] w) (L := [(1, _), (4, _), (44, _), (45, _), (46, _)]) ⟨rfl, rfl, rfl, rfl, rfl, trivial⟩ (⟨0, _, by omega, rfl, hcn, rfl, rfl, hs⟩) fun m E w hI => ?_)
              obtain ⟨k, G', hk, hrk, hcn, rfl, rfl, hs⟩ := hI
              have h1 := h10.mono hs.le
              have h2 := h20.mono hs.le
              have h3 := h30.mono hs.le
              have h4 := h40.mono hs.le
              refine T_seq (T_region rfl ?_)
              refine O_y hs (Y_cmpS rfl rfl rfl (fun h47 => ?_) (fun h47 => ?_))
              · -- h47: True
                dsimp only [cmpP] at h47
                refine O_nil (T_sub [(1, _), (4, _), (44, _), (45, _), (46, _), (47, _)] ⟨rfl, rfl, rfl, rfl, rfl, rfl, trivial⟩ ?_)
                refine T_seq (T_condT rfl (T_skip ?_))
                refine T_seq (T_block (T_seq (T_region rfl ?_)))
                refine O_y hs (Y_move rfl ?_)
                refine O_y hs (Y_idxS h2 k Tryz.underlying39 Tryz.sizeOf87 rfl rfl rfl (by omega) fun p49 cc hp49 hcl49 hcr49 => ?_)
                obtain ⟨vr, rfl, hrow⟩ := hcr49
                obtain ⟨Ar, cr, rfl⟩ := hrow.slice
                replace hrow : Mvs _ _ t.moves[k] := hrow
                refine O_y hs (Y_ldG Tryz.isAgg87 rfl (hp49 0 _ rfl) ?_)
                refine O_y hs (Y_assign rfl ?_)
                refine O_y hs (Y_assign rfl ?_)
                refine O_nil (T_sub [(1, _), (4, _), (5, _), (6, _), (44, _), (45, _), (46, _)] ⟨rfl, rfl, rfl, rfl, rfl, rfl, rfl, trivial⟩ ?_)
                obtain ⟨q86, hq86⟩ : ∃ q, t.moves[k].any (badM (t.moves.length : Int)) = q := ⟨_, rfl⟩
                refine T_seq (T_region rfl ?_)
                refine O_y hs (Y_move rfl ?_)
                refine O_y hs (Y_len Tryz.underlying87 rfl ?_)
                refine O_y hs (Y_fieldAddr FO43_0 rfl (m := 0) rfl ?_)
                refine O_y hs (Y_ld 0 Tryz.isAgg38 rfl rfl rfl ?_)
                refine O_y hs (Y_len Tryz.underlying38 rfl ?_)
                refine O_y hs (Y_cmpS rfl rfl rfl (fun h56 => ?_) (fun h56 => ?_))
                · -- h56: True
                  dsimp only [cmpP] at h56
                  refine O_y hs (Y_move rfl ?_)
                  refine O_no 57 rfl rfl ?_
                  refine O_no 57 rfl rfl ?_
                  refine O_no 57 rfl rfl ?_
                  refine O_no 57 rfl rfl ?_
                  refine O_no 57 rfl rfl ?_
                  refine O_no 57 rfl rfl ?_
                  refine O_no 57 rfl rfl ?_
                  refine O_y hs (Y_pickT rfl rfl ?_)
                  refine O_y hs (Y_move rfl ?_)
                  refine O_no 66 rfl rfl ?_
                  refine O_no 66 rfl rfl ?_
                  refine O_no 66 rfl rfl ?_
                  refine O_no 66 rfl rfl ?_
                  refine O_no 66 rfl rfl ?_
                  refine O_no 66 rfl rfl ?_
                  refine O_no 66 rfl rfl ?_
                  refine O_noU 73 rfl rfl ?_
                  refine O_noU 73 rfl rfl ?_
                  refine O_noU 73 rfl rfl ?_
                  refine O_noU 73 rfl rfl ?_
                  refine O_noU 73 rfl rfl ?_
                  refine O_noU 73 rfl rfl ?_
                  refine O_noU 73 rfl rfl ?_
                  refine O_no 66 rfl rfl ?_
                  refine O_y hs (Y_pickT rfl rfl ?_)
                  refine O_y hs (Y_move rfl ?_)
                  refine O_no 83 rfl rfl ?_
                  refine O_no 83 rfl rfl ?_
                  refine O_no 83 rfl rfl ?_
                  refine O_y hs (Y_pickT rfl rfl ?_)
                  refine O_nil (T_sub [(1, _), (4, _), (44, _), (45, _), (46, _), (87, _)] ⟨rfl, rfl, rfl, rfl, rfl, rfl, trivial⟩ ?_)
                  refine T_condT rfl (T_seq (T_region rfl ?_))
                  refine O_y hs (Y_assign rfl ?_)
                  refine O_nil (T_sub [(2, _)] ⟨rfl, trivial⟩ ?_)
                  refine T_ret ?_
                  refine Rt_fin (vs := [_]) Tryz.results19 rfl ⟨rfl, trivial⟩ ?_
                  try dsimp only [tup]
                  have e1 := decide_eq_false (show ¬ t.moves[k].length = t.classes.length by omega)
                  exact ⟨_, [], hs.done, rfl, congrArg Value.bool (by unfold validT; rw [hrk, rows_step (by omega) (by omega) (by omega), e1]; simp)⟩
                · -- h56: False
                  dsimp only [cmpP] at h56
                  refine O_y hs (Y_move rfl ?_)
                  refine O_yy 57 hs rfl rfl (Y_fieldAddr FO43_3 rfl (m := 3) rfl ?_)
                  refine O_yy 57 hs rfl rfl (Y_ld 0 Tryz.isAgg41 rfl rfl rfl ?_)
                  refine O_yy 57 hs rfl rfl (Y_move rfl ?_)
                  refine O_yy 57 hs rfl rfl (Y_idxS h4 k Tryz.underlying41 Tryz.sizeOf22 rfl rfl rfl (by omega) fun p61 cc hp61 hcl61 hcr61 => ?_)
                  obtain ⟨ve, rfl, hend⟩ := hcr61
                  obtain ⟨Ae, ce, rfl, _⟩ := id hend
                  refine O_yy 57 hs rfl rfl (Y_ldG Tryz.isAgg22 rfl (hp61 0 _ rfl) ?_)
                  refine O_yy 57 hs rfl rfl (Y_len Tryz.underlying22 rfl ?_)
                  refine O_yy 57 hs rfl rfl (Y_cmpS rfl rfl rfl (fun h64 => ?_) (fun h64 => ?_))
                  · -- h64: True
                    dsimp only [cmpP] at h64
                    refine O_y hs (Y_pickF rfl rfl ?_)
                    refine O_y hs (Y_move rfl ?_)
                    refine O_no 66 rfl rfl ?_
                    refine O_no 66 rfl rfl ?_
                    refine O_no 66 rfl rfl ?_
                    refine O_no 66 rfl rfl ?_
                    refine O_no 66 rfl rfl ?_
                    refine O_no 66 rfl rfl ?_
                    refine O_no 66 rfl rfl ?_
                    refine O_noU 73 rfl rfl ?_
                    refine O_noU 73 rfl rfl ?_
                    refine O_noU 73 rfl rfl ?_
                    refine O_noU 73 rfl rfl ?_
                    refine O_noU 73 rfl rfl ?_
                    refine O_noU 73 rfl rfl ?_
                    refine O_noU 73 rfl rfl ?_
                    refine O_no 66 rfl rfl ?_
                    refine O_y hs (Y_pickT rfl rfl ?_)
                    refine O_y hs (Y_move rfl ?_)
                    refine O_no 83 rfl rfl ?_
                    refine O_no 83 rfl rfl ?_
                    refine O_no 83 rfl rfl ?_
                    refine O_y hs (Y_pickT rfl rfl ?_)
                    refine O_nil (T_sub [(1, _), (4, _), (44, _), (45, _), (46, _), (87, _)] ⟨rfl, rfl, rfl, rfl, rfl, rfl, trivial⟩ ?_)
                    refine T_condT rfl (T_seq (T_region rfl ?_))
                    refine O_y hs (Y_assign rfl ?_)
                    refine O_nil (T_sub [(2, _)] ⟨rfl, trivial⟩ ?_)
                    refine T_ret ?_
                    refine Rt_fin (vs := [_]) Tryz.results19 rfl ⟨rfl, trivial⟩ ?_
                    try dsimp only [tup]
                    have e1 := decide_eq_true (show t.moves[k].length = t.classes.length by omega)
                    have e2 := decide_eq_false (show ¬ t.ends[k].length ≤ 8 by omega)
                    exact ⟨_, [], hs.done, rfl, congrArg Value.bool (by unfold validT; rw [hrk, rows_step (by omega) (by omega) (by omega), e1, e2]; simp)⟩
                  · -- h64: False
                    dsimp only [cmpP] at h64
                    refine O_y hs (Y_pickF rfl rfl ?_)
                    refine O_y hs (Y_move rfl ?_)
                    refine O_yy 66 hs rfl rfl (Y_fieldAddr FO43_2 rfl (m := 2) rfl ?_)
                    refine O_yy 66 hs rfl rfl (Y_ld 0 Tryz.isAgg40 rfl rfl rfl ?_)
                    refine O_yy 66 hs rfl rfl (Y_move rfl ?_)
                    refine O_yy 66 hs rfl rfl (Y_idxS h3 k Tryz.underlying40 Tryz.sizeOf4 rfl rfl rfl (by omega) fun p70 cc hp70 hcl70 hcr70 => ?_)
                    obtain ⟨fq, hfq⟩ : ∃ q, t.final[k] = q := ⟨_, rfl⟩
                    obtain rfl : cc = [.bool fq] := hfq ▸ hcr70
                    refine O_yy 66 hs rfl rfl (Y_ldG Tryz.isAgg4 rfl (hp70 0 _ rfl) ?_)
                    cases fq
                    · -- fq: False
                      refine O_yy 66 hs rfl rfl (Y_not rfl ?_)
                      refine O_yy 66 hs rfl rfl (Y_move rfl ?_)
                      refine O_yy 73 hs rfl rfl (Y_fieldAddr FO43_3 rfl (m := 3) rfl ?_)
                      refine O_yy 73 hs rfl rfl (Y_ld 0 Tryz.isAgg41 rfl rfl rfl ?_)
                      refine O_yy 73 hs rfl rfl (Y_move rfl ?_)
                      refine O_yy 73 hs rfl rfl (Y_idxS h4 k Tryz.underlying41 Tryz.sizeOf22 rfl rfl rfl (by omega) fun p77 cc hp77 hcl77 hcr77 => ?_)
                      obtain ⟨ve2, rfl, hend2⟩ := hcr77
                      obtain ⟨Ae2, ce2, rfl, _⟩ := id hend2
                      refine O_yy 73 hs rfl rfl (Y_ldG Tryz.isAgg22 rfl (hp77 0 _ rfl) ?_)
                      refine O_yy 73 hs rfl rfl (Y_len Tryz.underlying22 rfl ?_)
                      refine O_yy 73 hs rfl rfl (Y_cmpS rfl rfl rfl (fun h80 => ?_) (fun h80 => ?_))
                      · -- h80: True
                        dsimp only [cmpP] at h80
                        refine O_yy 66 hs rfl rfl (Y_pickT rfl rfl ?_)
                        refine O_y hs (Y_pickF rfl rfl ?_)
                        refine O_y hs (Y_move rfl ?_)
                        refine O_no 83 rfl rfl ?_
                        refine O_no 83 rfl rfl ?_
                        refine O_no 83 rfl rfl ?_
                        refine O_y hs (Y_pickT rfl rfl ?_)
                        refine O_nil (T_sub [(1, _), (4, _), (44, _), (45, _), (46, _), (87, _)] ⟨rfl, rfl, rfl, rfl, rfl, rfl, trivial⟩ ?_)
                        refine T_condT rfl (T_seq (T_region rfl ?_))
                        refine O_y hs (Y_assign rfl ?_)
                        refine O_nil (T_sub [(2, _)] ⟨rfl, trivial⟩ ?_)
                        refine T_ret ?_
                        refine Rt_fin (vs := [_]) Tryz.results19 rfl ⟨rfl, trivial⟩ ?_
                        try dsimp only [tup]
                        have e1 := decide_eq_true (show t.moves[k].length = t.classes.length by omega)
                        have e2 := decide_eq_true (show t.ends[k].length ≤ 8 by omega)
                        have e3 := decide_eq_false (show ¬ t.ends[k].length = 0 by omega)
                        exact ⟨_, [], hs.done, rfl, congrArg Value.bool (by unfold validT; rw [hrk, rows_step (by omega) (by omega) (by omega), e1, e2, hfq, e3]; simp)⟩
                      · -- h80: False
                        dsimp only [cmpP] at h80
                        refine O_yy 66 hs rfl rfl (Y_pickT rfl rfl ?_)
                        refine O_y hs (Y_pickF rfl rfl ?_)
                        refine O_y hs (Y_move rfl ?_)
                        refine O_yy 83 hs rfl rfl (Y_move rfl ?_)
                        refine O_yy 83 hs rfl rfl (Y_move rfl ?_)
                        refine O_yes 83 rfl rfl (S_call (H1 := []) hs rfl Tryz.func49 rfl (by kernel_rfl) (cfm_eq (bn := b3) q86 hq86 hrow (s2 _ (List.getElem_mem (show k < t.moves.length by omega))).1 (s2 _ (List.getElem_mem (show k < t.moves.length by omega))).2 hcn) fun v2 G' H' _ hR hG86 hs => ?_)
                        obtain ⟨rfl, rfl⟩ := hR
                        replace hs : St _ _ [_] _ := hs
                        replace h1 := h1.mono hG86
                        replace h2 := h2.mono hG86
                        replace h3 := h3.mono hG86
                        replace h4 := h4.mono hG86
                        replace hcn := hcn.mono hG86
                        cases hqs : q86
                        · -- hqs: False
                          refine O_y hs (Y_pickF rfl rfl ?_)
                          refine O_nil (T_sub [(1, _), (4, _), (44, _), (45, _), (46, _), (87, _)] ⟨rfl, rfl, rfl, rfl, rfl, rfl, trivial⟩ ?_)
                          refine T_condF rfl (T_skip ?_)
                          refine T_region rfl ?_
                          refine O_y hs (Y_add (c := ((k + 1 : Nat) : Int)) rfl rfl (by omega) (by omega) ?_)
                          refine O_y hs (Y_move rfl ?_)
                          have e1 := decide_eq_true (show t.moves[k].length = t.classes.length by omega)
                          have e2 := decide_eq_true (show t.ends[k].length ≤ 8 by omega)
                          have e3 := decide_eq_true (show t.ends[k].length = 0 by omega)
                          refine O_nil ⟨_, ?_, [(1, _), (4, _), (44, _), (45, _), (46, _)], ⟨rfl, rfl, rfl, rfl, rfl, trivial⟩, ⟨k + 1, _, by omega, by rw [hrk, rows_step (by omega) (by omega) (by omega), e1, e2, hfq, e3, hq86, hqs]; simp, hcn, rfl, rfl, hs⟩⟩
                          omega
                        · -- hqs: True
                          refine O_y hs (Y_pickF rfl rfl ?_)
                          refine O_nil (T_sub [(1, _), (4, _), (44, _), (45, _), (46, _), (87, _)] ⟨rfl, rfl, rfl, rfl, rfl, rfl, trivial⟩ ?_)
                          refine T_condT rfl (T_seq (T_region rfl ?_))
                          refine O_y hs (Y_assign rfl ?_)
                          refine O_nil (T_sub [(2, _)] ⟨rfl, trivial⟩ ?_)
                          refine T_ret ?_
                          refine Rt_fin (vs := [_]) Tryz.results19 rfl ⟨rfl, trivial⟩ ?_
                          try dsimp only [tup]
                          have e1 := decide_eq_true (show t.moves[k].length = t.classes.length by omega)
                          have e2 := decide_eq_true (show t.ends[k].length ≤ 8 by omega)
                          have e3 := decide_eq_true (show t.ends[k].length = 0 by omega)
                          exact ⟨_, [], hs.done, rfl, congrArg Value.bool (by unfold validT; rw [hrk, rows_step (by omega) (by omega) (by omega), e1, e2, hfq, e3, hq86, hqs]; simp)⟩
                    · -- fq: True
                      refine O_yy 66 hs rfl rfl (Y_not rfl ?_)
                      refine O_yy 66 hs rfl rfl (Y_move rfl ?_)
                      refine O_no 73 rfl rfl ?_
                      refine O_no 73 rfl rfl ?_
                      refine O_no 73 rfl rfl ?_
                      refine O_no 73 rfl rfl ?_
                      refine O_no 73 rfl rfl ?_
                      refine O_no 73 rfl rfl ?_
                      refine O_no 73 rfl rfl ?_
                      refine O_yy 66 hs rfl rfl (Y_pickF rfl rfl ?_)
                      refine O_y hs (Y_pickF rfl rfl ?_)
                      refine O_y hs (Y_move rfl ?_)
                      refine O_yy 83 hs rfl rfl (Y_move rfl ?_)
                      refine O_yy 83 hs rfl rfl (Y_move rfl ?_)
                      refine O_yes 83 rfl rfl (S_call (H1 := []) hs rfl Tryz.func49 rfl (by kernel_rfl) (cfm_eq (bn := b3) q86 hq86 hrow (s2 _ (List.getElem_mem (show k < t.moves.length by omega))).1 (s2 _ (List.getElem_mem (show k < t.moves.length by omega))).2 hcn) fun v3 G' H' _ hR hG86 hs => ?_)
                      obtain ⟨rfl, rfl⟩ := hR
                      replace hs : St _ _ [_] _ := hs
                      replace h1 := h1.mono hG86
                      replace h2 := h2.mono hG86
                      replace h3 := h3.mono hG86
                      replace h4 := h4.mono hG86
                      replace hcn := hcn.mono hG86
                      cases hqs : q86
                      · -- hqs: False
                        refine O_y hs (Y_pickF rfl rfl ?_)
                        refine O_nil (T_sub [(1, _), (4, _), (44, _), (45, _), (46, _), (87, _)] ⟨rfl, rfl, rfl, rfl, rfl, rfl, trivial⟩ ?_)
                        refine T_condF rfl (T_skip ?_)
                        refine T_region rfl ?_
                        refine O_y hs (Y_add (c := ((k + 1 : Nat) : Int)) rfl rfl (by omega) (by omega) ?_)
                        refine O_y hs (Y_move rfl ?_)
                        have e1 := decide_eq_true (show t.moves[k].length = t.classes.length by omega)
                        have e2 := decide_eq_true (show t.ends[k].length ≤ 8 by omega)
                        refine O_nil ⟨_, ?_, [(1, _), (4, _), (44, _), (45, _), (46, _)], ⟨rfl, rfl, rfl, rfl, rfl, trivial⟩, ⟨k + 1, _, by omega, by rw [hrk, rows_step (by omega) (by omega) (by omega), e1, e2, hfq, hq86, hqs]; simp, hcn, rfl, rfl, hs⟩⟩
                        omega
                      · -- hqs: True
                        refine O_y hs (Y_pickF rfl rfl ?_)
                        refine O_nil (T_sub [(1, _), (4, _), (44, _), (45, _), (46, _), (87, _)] ⟨rfl, rfl, rfl, rfl, rfl, rfl, trivial⟩ ?_)
                        refine T_condT rfl (T_seq (T_region rfl ?_))
                        refine O_y hs (Y_assign rfl ?_)
                        refine O_nil (T_sub [(2, _)] ⟨rfl, trivial⟩ ?_)
                        refine T_ret ?_
                        refine Rt_fin (vs := [_]) Tryz.results19 rfl ⟨rfl, trivial⟩ ?_
                        try dsimp only [tup]
                        have e1 := decide_eq_true (show t.moves[k].length = t.classes.length by omega)
                        have e2 := decide_eq_true (show t.ends[k].length ≤ 8 by omega)
                        exact ⟨_, [], hs.done, rfl, congrArg Value.bool (by unfold validT; rw [hrk, rows_step (by omega) (by omega) (by omega), e1, e2, hfq, hq86, hqs]; simp)⟩
              · -- h47: False
                dsimp only [cmpP] at h47
                refine O_nil (T_sub [(1, _), (4, _), (44, _), (45, _), (46, _), (47, _)] ⟨rfl, rfl, rfl, rfl, rfl, rfl, trivial⟩ ?_)
                refine T_seq (T_condF rfl (T_exit ?_))
                refine T_seq (T_region rfl ?_)
                refine O_y hs (Y_assign rfl ?_)
                refine O_nil (T_sub [(2, _)] ⟨rfl, trivial⟩ ?_)
                refine T_ret ?_
                refine Rt_fin (vs := [_]) Tryz.results19 rfl ⟨rfl, trivial⟩ ?_
                try dsimp only [tup]
                obtain rfl : k = t.moves.length := by omega
                exact ⟨_, [], hs.done, rfl, congrArg Value.bool (by unfold validT; rw [hrk, List.drop_length, rowsOk]; simp_all <;> omega)⟩

theorem valt_eq {G : Ghost} {v : Value} {t : Tr} (q : Bool) (hq : validT t = q) (ht : TrR G v t) (hsm : TrSmall t) :
    FnOk Tryz.prog 19 [v] G [] fun r _ H' => H' = [] ∧ r = .bool q := hq ▸ valt_ok ht hsm


set_option maxHeartbeats 400000 in
set_option maxRecDepth 10000 in
theorem run_bad {G : Ghost} {v vb : Value} {t : Tr} {b : List UInt8} (ht : TrR G v t) (hb : Bytes G vb b) (hsm : TrSmall t) (hv : validT t = false) :
    FnOk Tryz.prog 20 [v, vb] G [] fun r G' H' => H' = [] ∧ ∃ u, r = .tuple #[u, .bool (runT t b).isSome] ∧ Bytes G' u ((runT t b).getD []) := by
  have ht' := ht
  obtain ⟨v1, v2, v3, v4, rfl, h1, h2, h3, h4⟩ := ht
  obtain ⟨A1, c1, rfl⟩ := h1.slice
  obtain ⟨A2, c2, rfl⟩ := h2.slice
  obtain ⟨A3, c3, rfl⟩ := h3.slice
  obtain ⟨A4, c4, rfl⟩ := h4.slice
  obtain ⟨A, cap, rfl, _⟩ := id hb
  refine FnOk.of_T [(0, _), (1, _)] Tryz.func20 rfl Tryz.ntmps20 (by simp) rfl fun w0 hs => ?_
  refine T_seq (T_region rfl ?_)
  refine O_s (S_box hs rfl (cs := [_, _, _, _]) rfl fun b2 _ hs => ?_)
  refine O_y hs (Y_assign rfl ?_)
  refine O_y hs (Y_assign rfl ?_)
  refine O_nil (T_sub [(1, _), (2, _)] ⟨rfl, rfl, trivial⟩ ?_)
  refine T_seq (T_seq (T_region rfl ?_))
  refine O_y hs (Y_ldA 0 Tryz.isAgg43 Tryz.sizeOf43 rfl rfl (vs := [_, _, _, _]) rfl rfl ?_)
  refine O_s (S_call (H1 := []) hs rfl Tryz.func19 rfl (by kernel_rfl) (valt_eq false hv ⟨_, _, _, _, rfl, h1, h2, h3, h4⟩ hsm) fun v1 G' H' _ hR hG13 hs => ?_)
  obtain ⟨rfl, rfl⟩ := hR
  replace hs : St _ _ [_] _ := hs
  refine O_y hs (Y_not rfl ?_)
  refine O_nil (T_sub [(1, _), (2, _), (14, _)] ⟨rfl, rfl, rfl, trivial⟩ ?_)
  refine T_condT rfl (T_seq (T_region rfl ?_))
  refine O_y hs (Y_assign rfl ?_)
  refine O_y hs (Y_assign rfl ?_)
  refine O_nil (T_sub [(4, _), (5, _)] ⟨rfl, rfl, trivial⟩ ?_)
  refine T_ret ?_
  refine Rt_fin (vs := [_, _]) Tryz.results20 rfl ⟨rfl, rfl, trivial⟩ ?_
  try dsimp only [tup]
  exact ⟨_, [], hs.done, rfl, _, by unfold runT; rw [hv]; rfl, by unfold runT; rw [hv]; exact Sl.nil _ _⟩

set_option maxHeartbeats 400000 in
set_option maxRecDepth 10000 in
theorem run_go {G : Ghost} {v vb : Value} {t : Tr} {b : List UInt8} (ht : TrR G v t) (hb : Bytes G vb b) (hsm : TrSmall t) (hT : Tab G) (hbl : b.length ≤ 100000000) (hv : validT t = true) :
    FnOk Tryz.prog 20 [v, vb] G [] fun r G' H' => H' = [] ∧ ∃ u, r = .tuple #[u, .bool (runT t b).isSome] ∧ Bytes G' u ((runT t b).getD []) := by
  obtain ⟨v1, v2, v3, v4, rfl, h1, h2, h3, h4⟩ := ht
  obtain ⟨A1, c1, rfl⟩ := h1.slice
  obtain ⟨A2, c2, rfl⟩ := h2.slice
  obtain ⟨A3, c3, rfl⟩ := h3.slice
  obtain ⟨A4, c4, rfl⟩ := h4.slice
  obtain ⟨A, cap, rfl, _⟩ := id hb
  obtain ⟨hn1, hfl, hel, hcl, hro⟩ := valid_facts hv
  have hcl256 := cellF_len t.classes
  refine FnOk.of_T [(0, _), (1, _)] Tryz.func20 rfl Tryz.ntmps20 (by simp) rfl fun w0 hs => ?_
  have h10 := h1
  have h20 := h2
  have h30 := h3
  have h40 := h4
  have hb0 := hb
  have hT0 := hT
  refine T_seq (T_region rfl ?_)
  refine O_s (S_box hs rfl (cs := [_, _, _, _]) rfl fun b2 _ hs => ?_)
  refine O_y hs (Y_assign rfl ?_)
  refine O_y hs (Y_assign rfl ?_)
  refine O_nil (T_sub [(1, _), (2, _)] ⟨rfl, rfl, trivial⟩ ?_)
  refine T_seq (T_seq (T_region rfl ?_))
  refine O_y hs (Y_ldA 0 Tryz.isAgg43 Tryz.sizeOf43 rfl rfl (vs := [_, _, _, _]) rfl rfl ?_)
  refine O_s (S_call (H1 := []) hs rfl Tryz.func19 rfl (by kernel_rfl) (valt_eq true hv ⟨_, _, _, _, rfl, h1, h2, h3, h4⟩ hsm) fun v1 G' H' _ hR hG13 hs => ?_)
  obtain ⟨rfl, rfl⟩ := hR
  replace hs : St _ _ [_] _ := hs
  replace h1 := h1.mono hG13
  replace h2 := h2.mono hG13
  replace h3 := h3.mono hG13
  replace h4 := h4.mono hG13
  replace hb := hb.mono hG13
  replace hT := hT.mono hG13
  refine O_y hs (Y_not rfl ?_)
  refine O_nil (T_sub [(1, _), (2, _), (14, _)] ⟨rfl, rfl, rfl, trivial⟩ ?_)
  refine T_condF rfl (T_skip ?_)
  refine T_seq (T_region rfl ?_)
  refine O_y hs (Y_fieldAddr FO43_0 rfl (m := 0) rfl ?_)
  refine O_y hs (Y_ld 0 Tryz.isAgg38 rfl rfl rfl ?_)
  refine O_s (S_call (H1 := []) hs rfl Tryz.func50 rfl (by kernel_rfl) (cells_ok h1 hsm.1 hT) fun v2 G' H' _ hR hG17 hs => ?_)
  obtain ⟨rfl, rfl⟩ := hR
  replace hs : St _ _ [_] _ := hs
  replace h1 := h1.mono hG17
  replace h2 := h2.mono hG17
  replace h3 := h3.mono hG17
  replace h4 := h4.mono hG17
  replace hb := hb.mono hG17
  replace hT := hT.mono hG17
  refine O_s (S_alloc hs Tryz.zeroValue89 (cs := (List.map (Value.int .i64) (List.replicate 256 0))) rfl fun b6 _ hs => ?_)
  refine O_n (S_stW hs Tryz.sizeOf89 rfl rfl (vs := (List.map (Value.int .i64) (cellF t.classes))) (by first | omega | (simp; omega) | simp) (by first | omega | (simp; omega) | simp) (i64_all _) fun _ hs => ?_)
  refine O_y hs (Y_assign rfl ?_)
  refine O_nil (T_sub [(1, _), (2, _), (6, _), (7, _)] ⟨rfl, rfl, rfl, rfl, trivial⟩ ?_)
  refine T_seq (T_region rfl ?_)
  refine O_y hs (Y_assign rfl ?_)
  refine O_nil (T_sub [(1, _), (2, _), (6, _), (7, _), (8, _)] ⟨rfl, rfl, rfl, rfl, rfl, trivial⟩ ?_)
  refine T_seq (T_seq (T_region rfl ?_))
  refine O_y hs (Y_move rfl ?_)
  refine O_y hs (Y_len Tryz.underlying22 rfl ?_)
  refine O_y hs (Y_move rfl ?_)
  refine O_nil (T_sub [(2, _), (6, _), (7, _), (8, _), (18, _), (19, _), (20, _)] ⟨rfl, rfl, rfl, rfl, rfl, rfl, rfl, trivial⟩ ?_)
  have hs := hs.nilRow 5 1
  have hs := hs.front 1 rfl (H' := [_, _, _]) rfl
  have hs := hs.front 1 rfl (H' := [_, _, _]) rfl
  refine T_block (T_loop (fun m E w => ∃ (k s : Nat) (out : List UInt8) (v8 : Value) (G' : Ghost), k ≤ b.length ∧ s < t.moves.length ∧ runG t (cellF t.classes) 0 b = (runG t (cellF t.classes) s (b.drop k)).map (fun q => (q.1, out ++ q.2)) ∧ out.length ≤ 8 * k ∧ m = b.length - k ∧ E = ⟨[], [(2, .pointer (some ⟨b2, 0, none⟩)), (6, .pointer (some ⟨b6, 0, none⟩)), (7, .int .i64 (s : Int)), (8, v8), (18, (.slice A b.length cap)), (19, .int .i64 ((b.length : Nat) : Int)), (20, .int .i64 (k : Int))]⟩ ∧ St ⟨w0, G, feet []⟩ G' [.row 5 1 v8 out.length (out.map byteV), .blk b6 89 (List.map (Value.int .i64) (cellF t.classes)), .blk b2 43 [.slice A1 t.classes.length c1, .slice A2 t.moves.length c2, .slice A3 t.final.length c3, .slice A4 t.ends.length c4]] w) (L := [(2, _), (6, _), (7, _), (8, _), (18, _), (19, _), (20, _)]) ⟨rfl, rfl, rfl, rfl, rfl, rfl, rfl, trivial⟩ (⟨0, 0, [], _, _, by omega, by omega, by simp, by simp, rfl, rfl, hs⟩) fun m E w hI => ?_)
  obtain ⟨k, s, out, v8, G', hk, hsn, hrun, hol, rfl, rfl, hs⟩ := hI
  have h1 := h10.mono hs.le
  have h2 := h20.mono hs.le
  have h3 := h30.mono hs.le
  have h4 := h40.mono hs.le
  have hb := hb0.mono hs.le
  have hT := hT0.mono hs.le
  refine T_seq (T_region rfl ?_)
  refine O_y hs (Y_cmpS rfl rfl rfl (fun h21 => ?_) (fun h21 => ?_))
  · -- h21: True
    dsimp only [cmpP] at h21
    refine O_nil (T_sub [(2, _), (6, _), (7, _), (8, _), (18, _), (19, _), (20, _), (21, _)] ⟨rfl, rfl, rfl, rfl, rfl, rfl, rfl, rfl, trivial⟩ ?_)
    refine T_seq (T_condT rfl (T_skip ?_))
    refine T_seq (T_block (T_seq (T_region rfl ?_)))
    refine O_y hs (Y_idxB hb k Tryz.underlying22 Tryz.sizeOf5 rfl rfl rfl (by omega) fun p22 hp22 => ?_)
    refine O_y hs (Y_ldG Tryz.isAgg5 rfl (hp22) ?_)
    refine O_y hs (Y_assign rfl ?_)
    refine O_nil (T_sub [(2, _), (6, _), (7, _), (8, _), (10, _), (18, _), (19, _), (20, _)] ⟨rfl, rfl, rfl, rfl, rfl, rfl, rfl, rfl, trivial⟩ ?_)
    have hbk : (b[k]'(by omega)).toNat < 256 := (b[k]'(by omega)).toNat_lt
    obtain ⟨hr1, hr2⟩ := rows_at _ _ _ hro _ (List.getElem_mem (show s < t.moves.length by omega))
    have hci := cellF_in t.classes hcl _ (List.getElem_mem (show (b[k]'(by omega)).toNat < (cellF t.classes).length by rw [cellF_len]; omega))
    obtain ⟨ci, hcie⟩ : ∃ ci : Nat, (cellF t.classes)[(b[k]'(by omega)).toNat]'(by rw [cellF_len]; omega) = (ci : Int) := ⟨_, (Int.toNat_of_nonneg hci.1).symm⟩
    rw [hcie] at hci
    refine T_seq (T_drawS [0, 1, 2, 3, 4, 5, 6, 7, 8, 9, 10] hs (by kernel_rfl) ?_)
    replace hs := hs.drew
    refine A_take 0 rfl (by kernel_rfl) rfl hs (Y_fieldAddr FO43_1 rfl (m := 1) rfl ?_)
    refine A_take 1 rfl (by kernel_rfl) rfl hs (Y_ld 2 Tryz.isAgg39 rfl rfl rfl ?_)
    refine A_take 2 rfl (by kernel_rfl) rfl hs (Y_move rfl ?_)
    refine A_take 3 rfl (by kernel_rfl) rfl hs (Y_idxS h2 s Tryz.underlying39 Tryz.sizeOf87 rfl rfl rfl (by omega) fun p27 cc hp27 hcl27 hcr27 => ?_)
    obtain ⟨vr, rfl, hrow⟩ := hcr27
    obtain ⟨Ar, cr, rfl⟩ := hrow.slice
    replace hrow : Mvs _ _ t.moves[s] := hrow
    refine A_take 4 rfl (by kernel_rfl) rfl hs (Y_ldG Tryz.isAgg87 rfl (hp27 0 _ rfl) ?_)
    refine A_take 5 rfl (by kernel_rfl) rfl hs (Y_move rfl ?_)
    refine A_take 6 rfl (by kernel_rfl) rfl hs (Y_idxArr' (b[k].toNat) Tryz.underlying89 Tryz.sizeOf3 rfl rfl rfl hbk ?_)
    refine A_take 7 rfl (by kernel_rfl) rfl hs (Y_ld 1 Tryz.isAgg3 rfl rfl (v := .int .i64 (ci : Int)) (by rw [List.getElem?_map, List.getElem?_eq_getElem (by rw [hcl256]; exact hbk)]; exact congrArg (fun z => some (Value.int .i64 z)) hcie) ?_)
    refine A_take 8 rfl (by kernel_rfl) rfl hs (Y_idxS hrow ci Tryz.underlying87 Tryz.sizeOf81 rfl rfl rfl (by omega) fun p32 cc hp32 hcl32 hcr32 => ?_)
    obtain ⟨vo, rfl, hpc⟩ := hcr32
    obtain ⟨Ao, co, rfl⟩ := hpc.slice
    replace hpc : Pcs _ _ (t.moves[s][ci]).2 := hpc
    refine A_take 9 rfl (by kernel_rfl) rfl hs (Y_ldAG Tryz.isAgg81 Tryz.sizeOf81 rfl hp32 hcl32 ?_)
    have hle := hs.le
    refine A_only 10 rfl (by kernel_rfl) rfl (S_alloc hs Tryz.zeroValue81 (cs := [_, _]) rfl fun b11 _ hs => ?_)
    refine A_moreS hs hle (Ghost.le.refl _) (List.sublist_cons_self _ _) ?_
    refine A_tailN 11 rfl (by kernel_rfl) (by kernel_rfl) rfl (S_stA hs Tryz.sizeOf81 rfl rfl (vs := [_, _]) rfl (rfl) (by simp) (cs' := [_, _]) rfl fun _ hs => ?_)
    refine A_done (by kernel_rfl) (T_sub [(2, _), (6, _), (8, _), (10, _), (11, _), (18, _), (19, _), (20, _)] ⟨rfl, rfl, rfl, rfl, rfl, rfl, rfl, rfl, trivial⟩ ?_)
    have hmem := List.getElem_mem (show ci < t.moves[s].length by omega)
    have hmo := move_ok hr2 hmem
    have g1 : (cellF t.classes).getD b[k].toNat 0 = (ci : Int) := (getD_at (by rw [hcl256]; exact hbk)).trans hcie
    have g2 : t.moves.getD s [] = t.moves[s] := getD_at (by omega)
    have hgd : (t.moves.getD s []).getD ((cellF t.classes).getD b[k].toNat 0).toNat (0, []) = (t.moves[s][ci]) := by rw [g1, g2, Int.toNat_natCast]; exact getD_at (by omega)
    refine T_seq (T_seq (T_region rfl ?_))
    refine O_y hs (Y_fieldAddr FO81_0 rfl (m := 0) rfl ?_)
    refine O_y hs (Y_ld 0 Tryz.isAgg3 rfl rfl rfl ?_)
    refine O_y hs (Y_cmpS rfl rfl rfl (fun h36 => ?_) (fun h36 => ?_))
    · -- h36: True
      dsimp only [cmpP] at h36
      refine O_nil (T_sub [(2, _), (6, _), (8, _), (10, _), (11, _), (18, _), (19, _), (20, _), (36, _)] ⟨rfl, rfl, rfl, rfl, rfl, rfl, rfl, rfl, rfl, trivial⟩ ?_)
      refine T_condT rfl (T_seq (T_region rfl ?_))
      refine O_y hs (Y_assign rfl ?_)
      refine O_y hs (Y_assign rfl ?_)
      refine O_nil (T_sub [(4, _), (5, _)] ⟨rfl, rfl, trivial⟩ ?_)
      refine T_ret ?_
      refine Rt_fin (vs := [_, _]) Tryz.results20 rfl ⟨rfl, rfl, trivial⟩ ?_
      try dsimp only [tup]
      have hrt : runT t b = none := by unfold runT; rw [if_neg (by simp [hv]), hrun, List.drop_eq_getElem_cons (by omega), runG_snoc hgd, if_pos (by omega)]; rfl
      rw [hrt]
      exact ⟨_, [], hs.done, rfl, _, rfl, Sl.nil _ _⟩
    · -- h36: False
      dsimp only [cmpP] at h36
      refine O_nil (T_sub [(2, _), (6, _), (8, _), (10, _), (11, _), (18, _), (19, _), (20, _), (36, _)] ⟨rfl, rfl, rfl, rfl, rfl, rfl, rfl, rfl, rfl, trivial⟩ ?_)
      refine T_condF rfl (T_skip ?_)
      refine T_seq (T_region rfl ?_)
      refine O_y hs (Y_move rfl ?_)
      refine O_y hs (Y_fieldAddr FO81_1 rfl (m := 1) rfl ?_)
      refine O_y hs (Y_ld 0 Tryz.isAgg79 rfl rfl rfl ?_)
      refine O_y hs (Y_move rfl ?_)
      refine O_s (S_call (H1 := []) hs rfl Tryz.func51 rfl (by kernel_rfl) (writ_ok (b := b[k]) hpc (by have := move_out hr2 hmem; omega)) fun v3 G' H' _ hR hG41 hs => ?_)
      obtain ⟨rfl, hw⟩ := hR
      obtain ⟨A41, c41, rfl, _⟩ := id hw
      replace hs : St _ _ [_, _, _, _] _ := hs
      replace h1 := h1.mono hG41
      replace h2 := h2.mono hG41
      replace h3 := h3.mono hG41
      replace h4 := h4.mono hG41
      replace hb := hb.mono hG41
      replace hT := hT.mono hG41
      have hs := hs.front 1 rfl (H' := [_, _, _, _]) rfl
      refine O_s (S_append hs Tryz.underlying22 TI5 rfl (by decide) rfl rfl (hw) (byteV_one) (by rw [writF_len]; have := move_out hr2 hmem; omega) (by rw [writF_len]; have := move_out hr2 hmem; omega) fun v4 _ hs => ?_)
      refine O_y hs (Y_assign rfl ?_)
      refine O_nil (T_sub [(2, _), (6, _), (8, _), (11, _), (18, _), (19, _), (20, _)] ⟨rfl, rfl, rfl, rfl, rfl, rfl, rfl, trivial⟩ ?_)
      refine T_region rfl ?_
      refine O_y hs (Y_fieldAddr FO81_0 rfl (m := 0) rfl ?_)
      refine O_y hs (Y_ld 1 Tryz.isAgg3 rfl rfl rfl ?_)
      refine O_y hs (Y_assign rfl ?_)
      refine O_nil (T_sub [(2, _), (6, _), (7, _), (8, _), (18, _), (19, _), (20, _)] ⟨rfl, rfl, rfl, rfl, rfl, rfl, rfl, trivial⟩ ?_)
      refine T_region rfl ?_
      refine O_y hs (Y_add (c := ((k + 1 : Nat) : Int)) rfl rfl (by omega) (by omega) ?_)
      refine O_y hs (Y_move rfl ?_)
      have hs := hs.front 3 rfl (H' := [_, _, _, _]) rfl
      have hs := hs.front 3 rfl (H' := [_, _, _, _]) rfl
      have hs := hs.front 2 rfl (H' := [_, _, _, _]) rfl
      refine O_nil ⟨_, ?_, [(2, _), (6, _), (7, _), (8, _), (18, _), (19, _), (20, _)], ⟨rfl, rfl, rfl, rfl, rfl, rfl, rfl, trivial⟩, ⟨k + 1, (t.moves[s][ci]).1.toNat, out ++ writF (t.moves[s][ci]).2 b[k], _, _, by omega, by omega, by rw [hrun, List.drop_eq_getElem_cons (by omega), runG_snoc hgd, if_neg (by omega), Option.map_map]; simp [Function.comp_def], by rw [List.length_append, writF_len]; have := move_out hr2 hmem; omega, rfl, by rw [Int.toNat_of_nonneg (by omega)], by rw [List.length_append, List.map_append]; exact hs.weak hs.le (Ghost.le.refl _) (List.sublist_append_left [_, _, _] _)⟩⟩
      omega
  · -- h21: False
    dsimp only [cmpP] at h21
    refine O_nil (T_sub [(2, _), (6, _), (7, _), (8, _), (18, _), (19, _), (20, _), (21, _)] ⟨rfl, rfl, rfl, rfl, rfl, rfl, rfl, rfl, trivial⟩ ?_)
    refine T_seq (T_condF rfl (T_exit ?_))
    refine T_seq (T_seq (T_region rfl ?_))
    refine O_y hs (Y_fieldAddr FO43_2 rfl (m := 2) rfl ?_)
    refine O_y hs (Y_ld 2 Tryz.isAgg40 rfl rfl rfl ?_)
    refine O_y hs (Y_move rfl ?_)
    refine O_y hs (Y_idxS h3 s Tryz.underlying40 Tryz.sizeOf4 rfl rfl rfl (by omega) fun p49 cc hp49 hcl49 hcr49 => ?_)
    obtain ⟨fq, hfq⟩ : ∃ q, t.final[s] = q := ⟨_, rfl⟩
    obtain rfl : cc = [.bool fq] := hfq ▸ hcr49
    refine O_y hs (Y_ldG Tryz.isAgg4 rfl (hp49 0 _ rfl) ?_)
    cases fq
    · -- fq: False
      refine O_y hs (Y_not rfl ?_)
      refine O_nil (T_sub [(2, _), (7, _), (8, _), (51, _)] ⟨rfl, rfl, rfl, rfl, trivial⟩ ?_)
      refine T_condT rfl (T_seq (T_region rfl ?_))
      refine O_y hs (Y_assign rfl ?_)
      refine O_y hs (Y_assign rfl ?_)
      refine O_nil (T_sub [(4, _), (5, _)] ⟨rfl, rfl, trivial⟩ ?_)
      refine T_ret ?_
      refine Rt_fin (vs := [_, _]) Tryz.results20 rfl ⟨rfl, rfl, trivial⟩ ?_
      try dsimp only [tup]
      obtain rfl : k = b.length := by omega
      have hrt : runT t b = none := by unfold runT; rw [if_neg (by simp [hv]), hrun, List.drop_length, runG]; simp [List.getElem?_eq_getElem (show s < t.final.length by omega), hfq]
      rw [hrt]
      exact ⟨_, [], hs.done, rfl, _, rfl, Sl.nil _ _⟩
    · -- fq: True
      refine O_y hs (Y_not rfl ?_)
      refine O_nil (T_sub [(2, _), (7, _), (8, _), (51, _)] ⟨rfl, rfl, rfl, rfl, trivial⟩ ?_)
      refine T_condF rfl (T_skip ?_)
      refine T_seq (T_region rfl ?_)
      refine O_y hs (Y_move rfl ?_)
      refine O_y hs (Y_fieldAddr FO43_3 rfl (m := 3) rfl ?_)
      refine O_y hs (Y_ld 2 Tryz.isAgg41 rfl rfl rfl ?_)
      refine O_y hs (Y_move rfl ?_)
      refine O_y hs (Y_idxS h4 s Tryz.underlying41 Tryz.sizeOf22 rfl rfl rfl (by omega) fun p56 cc hp56 hcl56 hcr56 => ?_)
      obtain ⟨ve, rfl, hend⟩ := hcr56
      obtain ⟨Ae, ce, rfl, _⟩ := id hend
      refine O_y hs (Y_ldG Tryz.isAgg22 rfl (hp56 0 _ rfl) ?_)
      refine O_s (S_append hs Tryz.underlying22 TI5 rfl (by decide) rfl rfl (hend) (byteV_one) (by have := ends_le hv s (by omega); omega) (by have := ends_le hv s (by omega); omega) fun v5 _ hs => ?_)
      refine O_y hs (Y_assign rfl ?_)
      refine O_y hs (Y_assign rfl ?_)
      refine O_nil (T_sub [(4, _), (5, _)] ⟨rfl, rfl, trivial⟩ ?_)
      refine T_ret ?_
      refine Rt_fin (vs := [_, _]) Tryz.results20 rfl ⟨rfl, rfl, trivial⟩ ?_
      try dsimp only [tup]
      obtain rfl : k = b.length := by omega
      have hrt : runT t b = some (out ++ t.ends[s]) := by unfold runT; rw [if_neg (by simp [hv]), hrun, List.drop_length, runG]; simp [List.getElem?_eq_getElem (show s < t.final.length by omega), List.getElem?_eq_getElem (show s < t.ends.length by omega), hfq]
      rw [hrt]
      obtain ⟨G', hG, hf, hs3⟩ := hs.fixRow noM
      exact ⟨G', [], hs3.done, rfl, _, rfl, Bytes.ofSl hf (by simp) (by simp)⟩

end Go.Proofs.YtffbfibpfnlfeaaGreatDoor
