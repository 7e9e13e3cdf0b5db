import Derived.Test.YtkmgbcjfidpmgaaGreatDoorProg
import Derived.Test.YtkmgbcjfidpmgaaGreatDoorSame
import Derived.Test.YtkmgbcjfidpmgaaGreatDoorExThin
import Derived.Test.YtkmgbcjfidpmgaaGreatDoorShelf
namespace Go.Proofs.YtkmgbcjfidpmgaaGreatDoor
open Go Go.Ex Go.RowKit
theorem FO57_0 : fieldOff Tryz.prog 57 0 = some 0 := by kernel_rfl
theorem FO57_1 : fieldOff Tryz.prog 57 1 = some 1 := by kernel_rfl
theorem PL53 : places Tryz.prog 53 = some [(0, 1), (1, 1)] := by kernel_rfl

set_option maxHeartbeats 400000 in
set_option maxRecDepth 10000 in
theorem add_ok {G : Ghost} {p : Nat} {c : List Nat} {x : UInt8} (hc : c.length = 4) :
  FnOk Tryz.prog 123 [.pointer (some ⟨p, 0, none⟩), .int .u8 (x.toNat : Int)] G [.blk p 40 (c.map u64V)] fun _ _ H' => H' = [.blk p 40 ((addF c x).map u64V)] := by
 have hx := x.toNat_lt
 have hcell : (c.map u64V)[x.toNat / 64]? = some (u64V (c.getD (x.toNat / 64) 0)) := by rw [List.getElem?_map, List.getElem?_eq_getElem (by omega), List.getD_eq_getElem?_getD, List.getElem?_eq_getElem (by omega)]; rfl
 refine FnOk.of_T [(0, _), (1, _)] Tryz.func123 rfl Tryz.ntmps123 (by simp) rfl fun w0 hs => ?_
 refine T_drawS [0, 1, 2, 3, 4, 5, 6, 7, 8, 9, 10, 11] hs (by kernel_rfl) ?_
 replace hs := hs.drew
 refine A_take 0 rfl (by kernel_rfl) rfl hs (Y_move rfl ?_)
 refine A_take 1 rfl (by kernel_rfl) rfl hs (Y_move rfl ?_)
 refine A_take 2 rfl (by kernel_rfl) rfl hs (Y_quoU (c := ((x.toNat / 64 : Nat) : Int)) rfl rfl (by omega) (by omega) (by omega) ?_)
 refine A_take 3 rfl (by kernel_rfl) rfl hs (Y_nil rfl ?_)
 refine A_take 4 rfl (by kernel_rfl) rfl hs (Y_idxArr' (x.toNat / 64) Tryz.underlying40 Tryz.sizeOf38 rfl rfl rfl (by omega) ?_)
 refine A_take 5 rfl (by kernel_rfl) rfl hs (Y_ld 0 Tryz.isAgg38 rfl rfl hcell ?_)
 refine A_take 6 rfl (by kernel_rfl) rfl hs (Y_move rfl ?_)
 refine A_take 7 rfl (by kernel_rfl) rfl hs (Y_rem (c := ((x.toNat % 64 : Nat) : Int)) rfl rfl (by omega) (by omega) (by omega) ?_)
 refine A_take 8 rfl (by kernel_rfl) rfl hs (Y_shl1 (x.toNat % 64) (by omega) rfl rfl ?_)
 refine A_take 9 rfl (by kernel_rfl) rfl hs (Y_or64 rfl rfl ?_)
 refine A_take 10 rfl (by kernel_rfl) rfl hs (Y_nil rfl ?_)
 refine A_take 11 rfl (by kernel_rfl) rfl hs (Y_idxArr' (x.toNat / 64) Tryz.underlying40 Tryz.sizeOf38 rfl rfl rfl (by omega) ?_)
 refine A_tailN 12 rfl (by kernel_rfl) (by kernel_rfl) rfl (S_st hs Tryz.sizeOf38 rfl rfl rfl (by rw [List.length_map]; omega) (cs' := (addF c x).map u64V) (by unfold addF; rw [List.map_set]) fun _ hs => ?_)
 refine A_done (by kernel_rfl) (Rt_finN (vs := []) Tryz.results123 rfl trivial ?_)
 try dsimp only [tup]
 exact ⟨_, _, hs, rfl⟩

set_option maxHeartbeats 400000 in
set_option maxRecDepth 10000 in
theorem comb_ok {G : Ghost} {a b : List Nat} {gf : Nat} {fnn : Func} {op : Nat → Nat → Nat} (ha : a.length = 4) (hb : b.length = 4) (hfn : Tryz.prog.funcs[gf]? = some fnn) (hbd : fnn.body.isSome = true) (hnm : (fnn.name == "runtime.NumGoroutine") = false) (hg : ∀ (G' : Ghost) (x y : Nat), FnOk Tryz.prog gf [u64V x, u64V y] G' [] fun r _ H' => H' = [] ∧ r = u64V (op x y)) :
  FnOk Tryz.prog 131 [ClsV a, ClsV b, .func (.func gf) #[] #[]] G [] fun r _ H' => H' = [] ∧ r = ClsV (List.zipWith op a b) := by
 refine FnOk.of_T [(0, _), (1, _), (2, _)] Tryz.func131 rfl Tryz.ntmps131 (by simp) rfl fun w0 hs => ?_
 refine T_seq (T_region rfl ?_)
 refine O_s (S_box hs rfl (cs := (List.map u64V a)) rfl fun b3 _ hs => ?_)
 refine O_s (S_box hs rfl (cs := (List.map u64V b)) rfl fun b4 _ hs => ?_)
 refine O_s (S_alloc hs Tryz.zeroValue40 (cs := (List.map u64V [0, 0, 0, 0])) rfl fun b6 _ hs => ?_)
 refine O_nil (T_kp [2, 3, 4, 6] rfl ?_)
 refine T_seq (T_region rfl ?_)
 refine O_s (S_alloc hs Tryz.zeroValue40 (cs := (List.map u64V [0, 0, 0, 0])) rfl fun b7 _ hs => ?_)
 refine O_nil (T_kp [2, 3, 4, 6, 7] rfl ?_)
 refine T_seq (T_seq (T_region rfl ?_))
 refine O_m rfl ?_
 refine O_nil (T_kp [2, 3, 4, 6, 7, 9] rfl ?_)
 refine T_block (T_loop (fun m E w => ∃ (k : Nat) (G' : Ghost), k ≤ 4 ∧ m = 4 - k ∧ E = ⟨[], [(2, .func (.func gf) #[] #[]), (3, .pointer (some ⟨b3, 0, none⟩)), (4, .pointer (some ⟨b4, 0, none⟩)), (6, .pointer (some ⟨b6, 0, none⟩)), (7, .pointer (some ⟨b7, 0, none⟩)), (9, .int .i64 (k : Int))]⟩ ∧ St ⟨w0, G, feet []⟩ G' [.blk b7 40 (List.map u64V ((List.zipWith op a b).take k ++ List.replicate (4 - k) 0)), .blk b6 40 (List.map u64V [0, 0, 0, 0]), .blk b4 40 (List.map u64V b), .blk b3 40 (List.map u64V a)] w) (L := [(2, _), (3, _), (4, _), (6, _), (7, _), (9, _)]) ⟨rfl, rfl, rfl, rfl, rfl, rfl, trivial⟩ (⟨0, _, by omega, rfl, rfl, by simpa using hs⟩) fun m E w hI => ?_)
 obtain ⟨k, G', hk, rfl, rfl, hs⟩ := hI
 refine T_seq (T_region rfl ?_)
 refine O_y hs (Y_cmpS rfl rfl rfl (fun h10 => ?_) (fun h10 => ?_))
 ·
  dsimp only [cmpP] at h10
  refine O_nil (T_kp [2, 3, 4, 6, 7, 9, 10] rfl ?_)
  refine T_seq (T_condT rfl (T_skip ?_))
  refine T_seq (T_block (T_seq (T_region rfl ?_)))
  refine O_m rfl ?_
  refine O_a rfl ?_
  refine O_nil (T_kp [2, 3, 4, 6, 7, 8, 9] rfl ?_)
  refine T_drawS [0, 1, 2, 3, 4, 5, 6, 7, 8, 9] hs (by kernel_rfl) ?_
  replace hs := hs.drew
  refine A_take 0 rfl (by kernel_rfl) rfl hs (Y_move rfl ?_)
  refine A_take 1 rfl (by kernel_rfl) rfl hs (Y_move rfl ?_)
  refine A_take 2 rfl (by kernel_rfl) rfl hs (Y_move rfl ?_)
  refine A_take 3 rfl (by kernel_rfl) rfl hs (Y_idxArr' k Tryz.underlying40 Tryz.sizeOf38 rfl rfl rfl (by omega) ?_)
  refine A_take 4 rfl (by kernel_rfl) rfl hs (Y_ld 3 Tryz.isAgg38 rfl rfl (map_at a k (by omega)) ?_)
  refine A_take 5 rfl (by kernel_rfl) rfl hs (Y_move rfl ?_)
  refine A_take 6 rfl (by kernel_rfl) rfl hs (Y_idxArr' k Tryz.underlying40 Tryz.sizeOf38 rfl rfl rfl (by omega) ?_)
  refine A_take 7 rfl (by kernel_rfl) rfl hs (Y_ld 2 Tryz.isAgg38 rfl rfl (map_at b k (by omega)) ?_)
  have hle := hs.le
  refine A_only 8 rfl (by kernel_rfl) rfl (S_callV (args := [_, _]) (lb := []) (H1 := []) hs rfl rfl hfn hbd hnm (hg _ _ _) fun v1 G' H' _ hR hG20 hs => ?_)
  obtain ⟨rfl, rfl⟩ := hR
  replace hs : St _ _ [_, _, _, _] _ := hs
  refine A_moreS hs hle hG20 (List.Sublist.refl _) ?_
  refine A_take 9 rfl (by kernel_rfl) rfl hs (Y_idxArr' k Tryz.underlying40 Tryz.sizeOf38 rfl rfl rfl (by omega) ?_)
  refine A_tailN 10 rfl (by kernel_rfl) (by kernel_rfl) rfl (S_st hs Tryz.sizeOf38 rfl rfl rfl (by simp only [List.length_map, List.length_append, List.length_take, List.length_replicate, List.length_zipWith]; omega) (cs' := _) rfl fun _ hs => ?_)
  refine A_done (by kernel_rfl) (T_kp [2, 3, 4, 6, 7, 9] rfl ?_)
  refine T_region rfl ?_
  refine O_y hs (Y_add (c := ((k + 1 : Nat) : Int)) rfl rfl (by omega) (by omega) ?_)
  refine O_m rfl ?_
  refine O_nil ⟨_, ?_, [(2, _), (3, _), (4, _), (6, _), (7, _), (9, _)], ⟨rfl, rfl, rfl, rfl, rfl, rfl, trivial⟩, ⟨k + 1, _, by omega, rfl, rfl, by rw [zip_step op a b k (by omega) (by omega) (by omega)] at hs; exact hs⟩⟩
  omega
 ·
  dsimp only [cmpP] at h10
  refine O_nil (T_kp [2, 3, 4, 6, 7, 9, 10] rfl ?_)
  refine T_seq (T_condF rfl (T_exit ?_))
  refine T_seq (T_region rfl ?_)
  refine O_y hs (Y_ldW 0 Tryz.isAgg40 Tryz.sizeOf40 rfl rfl (by first | omega | (simp; omega) | simp) ?_)
  have hs := hs.f1
  refine O_n (S_stW hs Tryz.sizeOf40 rfl rfl (vs := (List.map u64V ((List.zipWith op a b).take k ++ List.replicate (4 - k) 0))) (by first | omega | (simp; omega) | simp) (by first | omega | (simp; omega) | simp) (u64_all _) fun _ hs => ?_)
  refine O_nil (T_kp [6] rfl ?_)
  refine T_ret ?_
  have hr := hs
  refine Rt_fin (vs := [_]) Tryz.results131 rfl ⟨ResOk_blk 0 hr Tryz.isAgg40 Tryz.sizeOf40 rfl (cs := (List.map u64V ((List.zipWith op a b).take k ++ List.replicate (4 - k) 0))) rfl (by first | omega | (simp; omega) | simp), trivial⟩ ?_
  try dsimp only [tup]
  obtain rfl : k = 4 := by omega
  exact ⟨_, [], hs.done, rfl, by show ClsV _ = _; rw [Nat.sub_self, List.replicate_zero, List.append_nil, List.take_of_length_le (by rw [List.length_zipWith]; omega)]⟩

set_option maxHeartbeats 400000 in
set_option maxRecDepth 10000 in
theorem not1_ok {G : Ghost} {x y : Nat} :
  FnOk Tryz.prog 133 [u64V x, u64V y] G [] fun r _ H' => H' = [] ∧ r = u64V (xor64 18446744073709551615 x) := by
 refine FnOk.of_T [(0, _), (1, _)] Tryz.func133 rfl Tryz.ntmps133 (by simp) rfl fun w0 hs => ?_
 refine T_seq (T_region rfl ?_)
 refine O_a rfl ?_
 refine O_nil (T_kp [0] rfl ?_)
 refine T_seq (T_region rfl ?_)
 refine O_m rfl ?_
 refine O_y hs (Y_compl64 rfl ?_)
 refine O_a rfl ?_
 refine O_nil (T_kp [4] rfl ?_)
 refine T_ret ?_
 refine Rt_fin (vs := [_]) Tryz.results133 rfl ⟨rfl, trivial⟩ ?_
 try dsimp only [tup]
 exact ⟨_, [], hs.done, rfl, rfl⟩

set_option maxHeartbeats 400000 in
set_option maxRecDepth 10000 in
theorem uni1_ok {G : Ghost} {x y : Nat} :
  FnOk Tryz.prog 132 [u64V x, u64V y] G [] fun r _ H' => H' = [] ∧ r = u64V (or64 x y) := by
 refine FnOk.of_T [(0, _), (1, _)] Tryz.func132 rfl Tryz.ntmps132 (by simp) rfl fun w0 hs => ?_
 refine T_seq (T_region rfl ?_)
 refine O_a rfl ?_
 refine O_nil (T_kp [0, 1] rfl ?_)
 refine T_seq (T_region rfl ?_)
 refine O_m rfl ?_
 refine O_m rfl ?_
 refine O_y hs (Y_or64 rfl rfl ?_)
 refine O_a rfl ?_
 refine O_nil (T_kp [4] rfl ?_)
 refine T_ret ?_
 refine Rt_fin (vs := [_]) Tryz.results132 rfl ⟨rfl, trivial⟩ ?_
 try dsimp only [tup]
 exact ⟨_, [], hs.done, rfl, rfl⟩

set_option maxHeartbeats 400000 in
set_option maxRecDepth 10000 in
theorem not_ok {G : Ghost} {c : List Nat} (hc : c.length = 4) :
  FnOk Tryz.prog 125 [ClsV c] G [] fun r _ H' => H' = [] ∧ r = ClsV (notF c) := by
 have hn := notF_len hc
 refine FnOk.of_T [(0, _)] Tryz.func125 rfl Tryz.ntmps125 (by simp) rfl fun w0 hs => ?_
 refine T_seq (T_region rfl ?_)
 refine O_s (S_box hs rfl (cs := (List.map u64V c)) rfl fun b1 _ hs => ?_)
 refine O_s (S_alloc hs Tryz.zeroValue40 (cs := (List.map u64V [0, 0, 0, 0])) rfl fun b2 _ hs => ?_)
 refine O_nil (T_kp [1, 2] rfl ?_)
 refine T_seq (T_region rfl ?_)
 refine O_y hs (Y_ldW 1 Tryz.isAgg40 Tryz.sizeOf40 rfl rfl (by first | omega | (simp; omega) | simp) ?_)
 refine O_y hs (Y_ldW 1 Tryz.isAgg40 Tryz.sizeOf40 rfl rfl (by first | omega | (simp; omega) | simp) ?_)
 refine O_s (S_call (H1 := []) hs rfl Tryz.func131 rfl (by kernel_rfl) (comb_ok hc hc Tryz.func133 rfl (by kernel_rfl) (fun _ _ _ => not1_ok)) fun v1 G' H' _ hR hG5 hs => ?_)
 obtain ⟨rfl, rfl⟩ := hR
 replace hs : St _ _ [_, _] _ := hs
 refine O_n (S_stW hs Tryz.sizeOf40 rfl rfl (vs := (List.map u64V (notF c))) (by first | omega | (simp; omega) | simp) (by first | omega | (simp; omega) | simp) (u64_all _) fun _ hs => ?_)
 refine O_nil (T_kp [2] rfl ?_)
 refine T_ret ?_
 have hr := hs
 refine Rt_fin (vs := [_]) Tryz.results125 rfl ⟨ResOk_blk 0 hr Tryz.isAgg40 Tryz.sizeOf40 rfl (cs := (List.map u64V (notF c))) rfl (by first | omega | (simp; omega) | simp), trivial⟩ ?_
 try dsimp only [tup]
 exact ⟨_, [], hs.done, rfl, rfl⟩

set_option maxHeartbeats 400000 in
set_option maxRecDepth 10000 in
theorem union_ok {G : Ghost} {a b : List Nat} (ha : a.length = 4) (hb : b.length = 4) :
  FnOk Tryz.prog 124 [ClsV a, ClsV b] G [] fun r _ H' => H' = [] ∧ r = ClsV (unionF a b) := by
 have hn := unionF_len ha hb
 refine FnOk.of_T [(0, _), (1, _)] Tryz.func124 rfl Tryz.ntmps124 (by simp) rfl fun w0 hs => ?_
 refine T_seq (T_region rfl ?_)
 refine O_s (S_box hs rfl (cs := (List.map u64V a)) rfl fun b2 _ hs => ?_)
 refine O_s (S_box hs rfl (cs := (List.map u64V b)) rfl fun b3 _ hs => ?_)
 refine O_s (S_alloc hs Tryz.zeroValue40 (cs := (List.map u64V [0, 0, 0, 0])) rfl fun b4 _ hs => ?_)
 refine O_nil (T_kp [2, 3, 4] rfl ?_)
 refine T_seq (T_region rfl ?_)
 refine O_y hs (Y_ldW 2 Tryz.isAgg40 Tryz.sizeOf40 rfl rfl (by first | omega | (simp; omega) | simp) ?_)
 refine O_y hs (Y_ldW 1 Tryz.isAgg40 Tryz.sizeOf40 rfl rfl (by first | omega | (simp; omega) | simp) ?_)
 refine O_s (S_call (H1 := []) hs rfl Tryz.func131 rfl (by kernel_rfl) (comb_ok ha hb Tryz.func132 rfl (by kernel_rfl) (fun _ _ _ => uni1_ok)) fun v1 G' H' _ hR hG7 hs => ?_)
 obtain ⟨rfl, rfl⟩ := hR
 replace hs : St _ _ [_, _, _] _ := hs
 refine O_n (S_stW hs Tryz.sizeOf40 rfl rfl (vs := (List.map u64V (unionF a b))) (by first | omega | (simp; omega) | simp) (by first | omega | (simp; omega) | simp) (u64_all _) fun _ hs => ?_)
 refine O_nil (T_kp [4] rfl ?_)
 refine T_ret ?_
 have hr := hs
 refine Rt_fin (vs := [_]) Tryz.results124 rfl ⟨ResOk_blk 0 hr Tryz.isAgg40 Tryz.sizeOf40 rfl (cs := (List.map u64V (unionF a b))) rfl (by first | omega | (simp; omega) | simp), trivial⟩ ?_
 try dsimp only [tup]
 exact ⟨_, [], hs.done, rfl, rfl⟩

set_option maxHeartbeats 400000 in
set_option maxRecDepth 10000 in
theorem range_ok {G : Ghost} {lo hi : UInt8} :
  FnOk Tryz.prog 108 [.int .u8 (lo.toNat : Int), .int .u8 (hi.toNat : Int)] G [] fun r _ H' => H' = [] ∧ r = ClsV (ofF (bytesFrom lo.toNat (hi.toNat + 1 - lo.toNat))) := by
 have hlo := lo.toNat_lt
 have hhi := hi.toNat_lt
 refine FnOk.of_T [(0, _), (1, _)] Tryz.func108 rfl Tryz.ntmps108 (by simp) rfl fun w0 hs => ?_
 refine T_seq (T_region rfl ?_)
 refine O_s (S_alloc hs Tryz.zeroValue40 (cs := (List.map u64V [0, 0, 0, 0])) rfl fun b4 _ hs => ?_)
 refine O_nil (T_kp [0, 1, 4] rfl ?_)
 refine T_seq (T_region rfl ?_)
 refine O_s (S_alloc hs Tryz.zeroValue40 (cs := (List.map u64V [0, 0, 0, 0])) rfl fun b5 _ hs => ?_)
 refine O_nil (T_kp [0, 1, 4, 5] rfl ?_)
 refine T_seq (T_seq (T_region rfl ?_))
 refine O_m rfl ?_
 refine O_y hs (Y_conv Tryz.underlying5 Tryz.underlying3 (c := (lo.toNat : Int)) rfl (wrap64_byte lo) ?_)
 refine O_a rfl ?_
 refine O_nil (T_kp [1, 4, 5, 6] rfl ?_)
 refine T_block (T_loop (fun m E w => ∃ (k : Nat) (G' : Ghost), k ≤ hi.toNat + 1 - lo.toNat ∧ m = 300 - k ∧ E = ⟨[], [(1, .int .u8 (hi.toNat : Int)), (4, .pointer (some ⟨b4, 0, none⟩)), (5, .pointer (some ⟨b5, 0, none⟩)), (6, .int .i64 ((lo.toNat + k : Nat) : Int))]⟩ ∧ St ⟨w0, G, feet []⟩ G' [.blk b5 40 (List.map u64V (ofF (bytesFrom lo.toNat k))), .blk b4 40 (List.map u64V [0, 0, 0, 0])] w) (L := [(1, _), (4, _), (5, _), (6, _)]) ⟨rfl, rfl, rfl, rfl, trivial⟩ (⟨0, _, by omega, rfl, rfl, hs⟩) fun m E w hI => ?_)
 obtain ⟨k, G', hk, rfl, rfl, hs⟩ := hI
 have h4 := ofF_len (bytesFrom lo.toNat k)
 refine T_seq (T_seq (T_region rfl ?_))
 refine O_m rfl ?_
 refine O_m rfl ?_
 refine O_y hs (Y_conv Tryz.underlying5 Tryz.underlying3 (c := (hi.toNat : Int)) rfl (wrap64_byte hi) ?_)
 refine O_y hs (Y_cmpS rfl rfl rfl (fun h12 => ?_) (fun h12 => ?_))
 ·
  dsimp only [cmpP] at h12
  refine O_nil (T_kp [1, 4, 5, 6, 12] rfl ?_)
  refine T_condT rfl (T_skip ?_)
  refine T_seq (T_block (T_region rfl ?_))
  refine O_m rfl ?_
  refine O_y hs (Y_conv Tryz.underlying3 Tryz.underlying5 (c := ((UInt8.ofNat (lo.toNat + k)).toNat : Int)) rfl (u8wrap (lo.toNat + k)) ?_)
  refine O_s (S_call (H1 := [_]) hs rfl Tryz.func123 rfl (by kernel_rfl) (add_ok (x := UInt8.ofNat (lo.toNat + k)) (ofF_len _)) fun v1 G' H' _ hR hG17 hs => ?_)
  obtain rfl := hR
  replace hs : St _ _ [_, _] _ := hs
  refine O_nil (T_kp [1, 4, 5, 6] rfl ?_)
  refine T_region rfl ?_
  refine O_m rfl ?_
  refine O_y hs (Y_add (c := ((lo.toNat + (k + 1) : Nat) : Int)) rfl rfl (by omega) (by omega) ?_)
  refine O_a rfl ?_
  refine O_nil ⟨_, ?_, [(1, _), (4, _), (5, _), (6, _)], ⟨rfl, rfl, rfl, rfl, trivial⟩, ⟨k + 1, _, by omega, rfl, rfl, by rw [bytesFrom_succ]; exact hs⟩⟩
  omega
 ·
  dsimp only [cmpP] at h12
  refine O_nil (T_kp [1, 4, 5, 6, 12] rfl ?_)
  refine T_condF rfl (T_exit ?_)
  refine T_seq (T_region rfl ?_)
  refine O_y hs (Y_ldW 0 Tryz.isAgg40 Tryz.sizeOf40 rfl rfl (by first | omega | (simp; omega) | simp) ?_)
  have hs := hs.f1
  refine O_n (S_stW hs Tryz.sizeOf40 rfl rfl (vs := (List.map u64V (ofF (bytesFrom lo.toNat k)))) (by first | omega | (simp; omega) | simp) (by first | omega | (simp; omega) | simp) (u64_all _) fun _ hs => ?_)
  refine O_nil (T_kp [4] rfl ?_)
  refine T_ret ?_
  have hr := hs
  refine Rt_fin (vs := [_]) Tryz.results108 rfl ⟨ResOk_blk 0 hr Tryz.isAgg40 Tryz.sizeOf40 rfl (cs := (List.map u64V (ofF (bytesFrom lo.toNat k)))) rfl (by first | omega | (simp; omega) | simp), trivial⟩ ?_
  try dsimp only [tup]
  exact ⟨_, [], hs.done, rfl, by rw [show hi.toNat + 1 - lo.toNat = k by omega]; rfl⟩

/-- The value that the parser throws. -/
def errV (e : Er) : Value := .iface 53 (.agg #[.int .i64 e.1, .int .i64 (e.2 : Int)])
theorem bsz (s : List UInt8) : (⟨s.toArray⟩ : ByteArray).size = s.length := by simp [ByteArray.size]
theorem unexp_end {s : List UInt8} {q : Nat} (h : q = s.length) : unexp s q = (21, q) := if_pos h
theorem unexp_mid {s : List UInt8} {q : Nat} (h : ¬ q = s.length) : unexp s q = (20, q) := if_neg h


set_option maxHeartbeats 400000 in
set_option maxRecDepth 10000 in
theorem peek_ok {G : Ghost} {p : Nat} {s : List UInt8} {q : Nat} {v : Value} (hq : q ≤ s.length) (hl : s.length ≤ 2000000) :
  FnOk Tryz.prog 70 [.pointer (some ⟨p, 0, none⟩)] G [.blk p 57 [.string ⟨s.toArray⟩, .int .i64 (q : Int), v]] fun r _ H' => H' = [.blk p 57 [.string ⟨s.toArray⟩, .int .i64 (q : Int), v]] ∧ r = .int .i64 (peekI s q) := by
 have hsz := bsz s
 refine FnOk.of_T [(0, _)] Tryz.func70 rfl Tryz.ntmps70 (by simp) rfl fun w0 hs => ?_
 refine T_seq (T_region rfl ?_)
 refine O_a rfl ?_
 refine O_nil (T_kp [0] rfl ?_)
 refine T_seq (T_seq (T_drawS [0, 1, 2, 3, 4, 5, 6, 7, 8, 9] hs (by kernel_rfl) ?_))
 replace hs := hs.drew
 refine A_take 0 rfl (by kernel_rfl) rfl hs (Y_move rfl ?_)
 refine A_take 1 rfl (by kernel_rfl) rfl hs (Y_nil rfl ?_)
 refine A_take 2 rfl (by kernel_rfl) rfl hs (Y_fieldAddr FO57_1 rfl (m := 1) rfl ?_)
 refine A_take 3 rfl (by kernel_rfl) rfl hs (Y_ld 0 Tryz.isAgg3 rfl rfl rfl ?_)
 refine A_take 4 rfl (by kernel_rfl) rfl hs (Y_move rfl ?_)
 refine A_take 5 rfl (by kernel_rfl) rfl hs (Y_nil rfl ?_)
 refine A_take 6 rfl (by kernel_rfl) rfl hs (Y_fieldAddr FO57_0 rfl (m := 0) rfl ?_)
 refine A_take 7 rfl (by kernel_rfl) rfl hs (Y_ld 0 Tryz.isAgg9 rfl rfl rfl ?_)
 refine A_take 8 rfl (by kernel_rfl) rfl hs (Y_lenS Tryz.underlying9 rfl ?_)
 refine A_take 9 rfl (by kernel_rfl) rfl hs (Y_cmpS rfl rfl rfl (fun h12 => ?_) (fun h12 => ?_))
 ·
  dsimp only [cmpP] at h12
  refine A_done (by kernel_rfl) (T_kp [0, 12] rfl ?_)
  refine T_condT rfl (T_seq (T_region rfl ?_))
  refine O_a rfl ?_
  refine O_nil (T_kp [2] rfl ?_)
  refine T_ret ?_
  refine Rt_fin (vs := [_]) Tryz.results70 rfl ⟨rfl, trivial⟩ ?_
  try dsimp only [tup]
  exact ⟨_, _, hs, rfl, congrArg (Value.int .i64) (peek_end (by omega)).symm⟩
 ·
  dsimp only [cmpP] at h12
  refine A_done (by kernel_rfl) (T_kp [0, 12] rfl ?_)
  refine T_condF rfl (T_skip ?_)
  refine T_seq (T_drawS [0, 1, 2, 3, 4, 5, 6, 7, 8, 9, 10] hs (by kernel_rfl) ?_)
  replace hs := hs.drew
  refine A_take 0 rfl (by kernel_rfl) rfl hs (Y_move rfl ?_)
  refine A_take 1 rfl (by kernel_rfl) rfl hs (Y_nil rfl ?_)
  refine A_take 2 rfl (by kernel_rfl) rfl hs (Y_fieldAddr FO57_0 rfl (m := 0) rfl ?_)
  refine A_take 3 rfl (by kernel_rfl) rfl hs (Y_ld 0 Tryz.isAgg9 rfl rfl rfl ?_)
  refine A_take 4 rfl (by kernel_rfl) rfl hs (Y_move rfl ?_)
  refine A_take 5 rfl (by kernel_rfl) rfl hs (Y_nil rfl ?_)
  refine A_take 6 rfl (by kernel_rfl) rfl hs (Y_fieldAddr FO57_1 rfl (m := 1) rfl ?_)
  refine A_take 7 rfl (by kernel_rfl) rfl hs (Y_ld 0 Tryz.isAgg3 rfl rfl rfl ?_)
  refine A_take 8 rfl (by kernel_rfl) rfl hs (Y_idxStr (b := s[q]'(by omega)) q Tryz.underlying9 rfl rfl rfl (str_at (List.getElem?_eq_getElem (by omega))) ?_)
  refine A_take 9 rfl (by kernel_rfl) rfl hs (Y_conv Tryz.underlying5 Tryz.underlying3 (c := ((s[q]'(by omega)).toNat : Int)) rfl (wrap64_byte _) ?_)
  refine A_take 10 rfl (by kernel_rfl) rfl hs (Y_assign rfl ?_)
  refine A_done (by kernel_rfl) (T_kp [2] rfl ?_)
  refine T_ret ?_
  refine Rt_fin (vs := [_]) Tryz.results70 rfl ⟨rfl, trivial⟩ ?_
  try dsimp only [tup]
  exact ⟨_, _, hs, rfl, congrArg (Value.int .i64) (peek_at (by omega)).symm⟩

set_option maxHeartbeats 400000 in
set_option maxRecDepth 10000 in
theorem accept_t {G : Ghost} {p : Nat} {s : List UInt8} {q : Nat} {v : Value} (hq : q ≤ s.length) (hl : s.length ≤ 2000000) {b : UInt8} (hb : isB s q b = true) :
  FnOk Tryz.prog 49 [.pointer (some ⟨p, 0, none⟩), .int .u8 (b.toNat : Int)] G [.blk p 57 [.string ⟨s.toArray⟩, .int .i64 (q : Int), v]] fun r _ H' => H' = [.blk p 57 [.string ⟨s.toArray⟩, .int .i64 ((q + 1 : Nat) : Int), v]] ∧ r = .bool true := by
 have hsz := bsz s
 have hpk := isB_eq hb
 have hlt := isB_lt hb
 refine FnOk.of_T [(0, _), (1, _)] Tryz.func49 rfl Tryz.ntmps49 (by simp) rfl fun w0 hs => ?_
 refine T_seq (T_region rfl ?_)
 refine O_a rfl ?_
 refine O_nil (T_kp [0, 1] rfl ?_)
 refine T_seq (T_seq (T_region rfl ?_))
 refine O_m rfl ?_
 refine O_s (S_call (H1 := [_]) hs rfl Tryz.func70 rfl (by kernel_rfl) (peek_ok (q := q) (by omega) hl) fun v1 G' H' _ hR hG6 hs => ?_)
 obtain ⟨rfl, rfl⟩ := hR
 replace hs : St _ _ [_] _ := hs
 refine O_m rfl ?_
 refine O_y hs (Y_conv Tryz.underlying5 Tryz.underlying3 (c := (b.toNat : Int)) rfl (wrap64_byte b) ?_)
 refine O_y hs (Y_cmpF rfl rfl rfl (fun h => h hpk) ?_)
 refine O_nil (T_kp [0, 9] rfl ?_)
 refine T_condF rfl (T_skip ?_)
 refine T_seq (T_region rfl ?_)
 refine O_m rfl ?_
 refine O_y hs (Y_nil rfl ?_)
 refine O_y hs (Y_fieldAddr FO57_1 rfl (m := 1) rfl ?_)
 refine O_y hs (Y_ld 0 Tryz.isAgg3 rfl rfl rfl ?_)
 refine O_y hs (Y_add (c := ((q + 1 : Nat) : Int)) rfl rfl (by omega) (by omega) ?_)
 refine O_y hs (Y_nil rfl ?_)
 refine O_y hs (Y_fieldAddr FO57_1 rfl (m := 1) rfl ?_)
 refine O_n (S_st hs Tryz.sizeOf3 rfl rfl rfl (by simp) (cs' := [_, _, _]) rfl fun _ hs => ?_)
 refine O_nil (T_kp [] rfl ?_)
 refine T_seq (T_region rfl ?_)
 refine O_a rfl ?_
 refine O_nil (T_kp [4] rfl ?_)
 refine T_ret ?_
 refine Rt_fin (vs := [_]) Tryz.results49 rfl ⟨rfl, trivial⟩ ?_
 try dsimp only [tup]
 exact ⟨_, _, hs, rfl, rfl⟩

set_option maxHeartbeats 400000 in
set_option maxRecDepth 10000 in
theorem accept_f {G : Ghost} {p : Nat} {s : List UInt8} {q : Nat} {v : Value} (hq : q ≤ s.length) (hl : s.length ≤ 2000000) {b : UInt8} (hb : isB s q b = false) :
  FnOk Tryz.prog 49 [.pointer (some ⟨p, 0, none⟩), .int .u8 (b.toNat : Int)] G [.blk p 57 [.string ⟨s.toArray⟩, .int .i64 (q : Int), v]] fun r _ H' => H' = [.blk p 57 [.string ⟨s.toArray⟩, .int .i64 (q : Int), v]] ∧ r = .bool false := by
 have hsz := bsz s
 have hpk := isB_ne hb
 refine FnOk.of_T [(0, _), (1, _)] Tryz.func49 rfl Tryz.ntmps49 (by simp) rfl fun w0 hs => ?_
 refine T_seq (T_region rfl ?_)
 refine O_a rfl ?_
 refine O_nil (T_kp [0, 1] rfl ?_)
 refine T_seq (T_seq (T_region rfl ?_))
 refine O_m rfl ?_
 refine O_s (S_call (H1 := [_]) hs rfl Tryz.func70 rfl (by kernel_rfl) (peek_ok (q := q) (by omega) hl) fun v1 G' H' _ hR hG6 hs => ?_)
 obtain ⟨rfl, rfl⟩ := hR
 replace hs : St _ _ [_] _ := hs
 refine O_m rfl ?_
 refine O_y hs (Y_conv Tryz.underlying5 Tryz.underlying3 (c := (b.toNat : Int)) rfl (wrap64_byte b) ?_)
 refine O_y hs (Y_cmpT rfl rfl rfl (hpk) ?_)
 refine O_nil (T_kp [0, 9] rfl ?_)
 refine T_condT rfl (T_seq (T_region rfl ?_))
 refine O_a rfl ?_
 refine O_nil (T_kp [4] rfl ?_)
 refine T_ret ?_
 refine Rt_fin (vs := [_]) Tryz.results49 rfl ⟨rfl, trivial⟩ ?_
 try dsimp only [tup]
 exact ⟨_, _, hs, rfl, rfl⟩

set_option maxHeartbeats 400000 in
set_option maxRecDepth 10000 in
theorem unexp_ok {G : Ghost} {p : Nat} {s : List UInt8} {q : Nat} {v : Value} (hq : q ≤ s.length) (hl : s.length ≤ 2000000) :
  FnX Tryz.prog 34 [.pointer (some ⟨p, 0, none⟩)] G [.blk p 57 [.string ⟨s.toArray⟩, .int .i64 (q : Int), v]] (fun _ _ _ => False) (fun x _ => x = errV (unexp s q)) := by
 have hsz := bsz s
 refine FnX.of_T [(0, _)] Tryz.func34 rfl Tryz.ntmps34 (by simp) rfl fun w0 hs => ?_
 refine T_seq (T_seq (T_drawS [0, 1, 2, 3, 4, 5, 6, 7, 8, 9] hs (by kernel_rfl) ?_))
 replace hs := hs.drew
 refine A_take 0 rfl (by kernel_rfl) rfl hs (Y_move rfl ?_)
 refine A_take 1 rfl (by kernel_rfl) rfl hs (Y_nil rfl ?_)
 refine A_take 2 rfl (by kernel_rfl) rfl hs (Y_fieldAddr FO57_1 rfl (m := 1) rfl ?_)
 refine A_take 3 rfl (by kernel_rfl) rfl hs (Y_ld 0 Tryz.isAgg3 rfl rfl rfl ?_)
 refine A_take 4 rfl (by kernel_rfl) rfl hs (Y_move rfl ?_)
 refine A_take 5 rfl (by kernel_rfl) rfl hs (Y_nil rfl ?_)
 refine A_take 6 rfl (by kernel_rfl) rfl hs (Y_fieldAddr FO57_0 rfl (m := 0) rfl ?_)
 refine A_take 7 rfl (by kernel_rfl) rfl hs (Y_ld 0 Tryz.isAgg9 rfl rfl rfl ?_)
 refine A_take 8 rfl (by kernel_rfl) rfl hs (Y_lenS Tryz.underlying9 rfl ?_)
 refine A_take 9 rfl (by kernel_rfl) rfl hs (Y_cmpS rfl rfl rfl (fun h11 => ?_) (fun h11 => ?_))
 ·
  dsimp only [cmpP] at h11
  refine A_done (by kernel_rfl) (T_kp [0, 11] rfl ?_)
  refine T_condT rfl (T_region rfl ?_)
  refine O_m rfl ?_
  refine O_y hs (Y_nil rfl ?_)
  refine O_y hs (Y_fieldAddr FO57_1 rfl (m := 1) rfl ?_)
  refine O_y hs (Y_ld 0 Tryz.isAgg3 rfl rfl rfl ?_)
  refine O_y hs (Y_build Tryz.zeroValue53 rfl PL53 rfl (cs := [_, _]) rfl ?_)
  refine O_y hs (Y_makeInterface Tryz.underlying53 (fun _ h => by cases h) rfl ?_)
  refine O_n (S_panic rfl (fun _ => rfl) (RtX_panic rfl ⟨_, hs.done, ?_⟩))
  rw [unexp_end (by omega)]; rfl
 ·
  dsimp only [cmpP] at h11
  refine A_done (by kernel_rfl) (T_kp [0, 11] rfl ?_)
  refine T_condF rfl (T_skip ?_)
  refine T_region rfl ?_
  refine O_m rfl ?_
  refine O_y hs (Y_nil rfl ?_)
  refine O_y hs (Y_fieldAddr FO57_1 rfl (m := 1) rfl ?_)
  refine O_y hs (Y_ld 0 Tryz.isAgg3 rfl rfl rfl ?_)
  refine O_y hs (Y_build Tryz.zeroValue53 rfl PL53 rfl (cs := [_, _]) rfl ?_)
  refine O_y hs (Y_makeInterface Tryz.underlying53 (fun _ h => by cases h) rfl ?_)
  refine O_n (S_panic rfl (fun _ => rfl) (RtX_panic rfl ⟨_, hs.done, ?_⟩))
  rw [unexp_mid (by omega)]; rfl

set_option maxHeartbeats 400000 in
set_option maxRecDepth 10000 in
theorem expect_ok {G : Ghost} {p : Nat} {s : List UInt8} {q : Nat} {v : Value} (hq : q ≤ s.length) (hl : s.length ≤ 2000000) {b : UInt8} :
  FnX Tryz.prog 110 [.pointer (some ⟨p, 0, none⟩), .int .u8 (b.toNat : Int)] G [.blk p 57 [.string ⟨s.toArray⟩, .int .i64 (q : Int), v]] (fun _ _ H' => isB s q b = true ∧ H' = [.blk p 57 [.string ⟨s.toArray⟩, .int .i64 ((q + 1 : Nat) : Int), v]]) (fun x _ => isB s q b = false ∧ x = errV (unexp s q)) := by
 have hsz := bsz s
 refine FnX.of_T [(0, _), (1, _)] Tryz.func110 rfl Tryz.ntmps110 (by simp) rfl fun w0 hs => ?_
 refine T_seq (T_region rfl ?_)
 refine O_m rfl ?_
 refine O_m rfl ?_
 cases hb6 : isB s q b
 ·
  refine O_s (S_call (H1 := [_]) hs rfl Tryz.func49 rfl (by kernel_rfl) (accept_f (q := q) (b := b) (by omega) hl hb6) fun v1 G' H' _ hR hG6 hs => ?_)
  obtain ⟨rfl, rfl⟩ := hR
  replace hs : St _ _ [_] _ := hs
  refine O_y hs (Y_not rfl ?_)
  refine O_nil (T_kp [0, 7] rfl ?_)
  refine T_condT rfl (T_region rfl ?_)
  refine O_m rfl ?_
  refine O_s (S_callX (H1 := [_]) hs rfl Tryz.func34 rfl (by kernel_rfl) (unexp_ok (q := q) (by omega) hl) (fun v G' w' hX hG hs => RtX_panic rfl ⟨_, hs.done, ⟨by first | rfl | exact hb6, hX⟩⟩) fun v2 G' H' _ hR hG9 hs => ?_)
  exact hR.elim
 ·
  have hlt6 := isB_lt hb6
  refine O_s (S_call (H1 := [_]) hs rfl Tryz.func49 rfl (by kernel_rfl) (accept_t (q := q) (b := b) (by omega) hl hb6) fun v3 G' H' _ hR hG6 hs => ?_)
  obtain ⟨rfl, rfl⟩ := hR
  replace hs : St _ _ [_] _ := hs
  refine O_y hs (Y_not rfl ?_)
  refine O_nil (T_kp [0, 7] rfl ?_)
  refine T_condF rfl (T_skip ?_)
  try dsimp only [Ex.sq, Ex.lp, Ex.bk]
  try rw [show Nat.beq _ _ = true from Nat.beq_refl _, cond_true]
  refine RtX_finN (vs := []) Tryz.results110 rfl trivial ?_
  try dsimp only [tup]
  exact ⟨_, _, hs, by first | rfl | exact hb6, rfl⟩

theorem plain_1 {x : UInt8} (h : ¬ (32 < x.toNat ∧ x.toNat < 127)) : plainB x = false := by
  unfold plainB
  rcases Nat.lt_or_ge 32 x.toNat with h1 | h1
  · have h2 : ¬ x.toNat < 127 := fun h2 => h ⟨h1, h2⟩
    simp [h2]
  · have h2 : ¬ 32 < x.toNat := by omega
    simp [h2]
theorem plain_2 {x : UInt8} (h1 : 32 < x.toNat) (h2 : x.toNat < 127) (h : ([33, 38, 40, 41, 42, 43, 45, 46, 63, 91, 92, 93, 94, 123, 124, 125, 126] : List UInt8).contains x = false) : plainB x = true := by
  unfold plainB; rw [h]; simp [h1, h2]
theorem plain_3 {x : UInt8} (h : ([33, 38, 40, 41, 42, 43, 45, 46, 63, 91, 92, 93, 94, 123, 124, 125, 126] : List UInt8).contains x = true) : plainB x = false := by
  unfold plainB; rw [h]; simp


theorem data_list (s : List UInt8) : (⟨s.toArray⟩ : ByteArray).data.toList = s := rfl
theorem idx_has : ∀ (s : List UInt8) (x : UInt8), 0 ≤ Lib.indexByte s x ↔ s.contains x = true
  | [], x => by simp [Lib.indexByte]
  | b :: l, x => by
    have ih := idx_has l x
    have hge := Lib.indexByte_ge l x
    rw [Lib.indexByte, List.contains_cons]
    by_cases hb : b = x
    · subst hb; simp
    · have hb' : ¬ (b == x) = true := by simpa using hb
      have hb2 : (x == b) = false := by simpa using fun h => hb h.symm
      rw [if_neg hb', hb2, Bool.false_or, ← ih]
      by_cases h1 : Lib.indexByte l x = -1
      · rw [if_pos (by simpa using h1)]; omega
      · rw [if_neg (by simpa using h1)]; omega
theorem sidx_ok {G : Ghost} {s : List UInt8} {x : UInt8} : FnOk Tryz.prog 95 [.string ⟨s.toArray⟩, .int .u8 (x.toNat : Int)] G [] fun r _ H' => H' = [] ∧ ∃ z : Int, r = .int .i64 z ∧ (0 ≤ z ↔ s.contains x = true) := fun w hw =>
  (Tryz.strings_IndexByte ⟨s.toArray⟩ (x.toNat : Int) w).mono fun e w' he => by
    obtain ⟨rfl, rfl⟩ := he
    have hx : ((x.toNat : Int).toNat).toUInt8 = x := by simp
    refine ⟨_, _, _, rfl, hw, rfl, _, rfl, ?_⟩
    rw [hx, data_list]
    exact idx_has s x


set_option maxHeartbeats 400000 in
set_option maxRecDepth 10000 in
theorem plain_ok {G : Ghost} {x : UInt8} :
  FnOk Tryz.prog 77 [.int .u8 (x.toNat : Int)] G [] fun r _ H' => H' = [] ∧ r = .bool (plainB x) := by
 have hx := x.toNat_lt
 refine FnOk.of_T [(0, _)] Tryz.func77 rfl Tryz.ntmps77 (by simp) rfl fun w0 hs => ?_
 refine T_seq (T_region rfl ?_)
 refine O_a rfl ?_
 refine O_nil (T_kp [0] rfl ?_)
 refine T_seq (T_region rfl ?_)
 refine O_m rfl ?_
 refine O_y hs (Y_cmpS rfl rfl rfl (fun h4 => ?_) (fun h4 => ?_))
 ·
  dsimp only [cmpP] at h4
  refine O_m rfl ?_
  refine O_yy 5 hs rfl rfl (Y_move rfl ?_)
  refine O_yy 5 hs rfl rfl (Y_cmpS rfl rfl rfl (fun h7 => ?_) (fun h7 => ?_))
  ·
   dsimp only [cmpP] at h7
   refine O_y hs (Y_pickT rfl rfl ?_)
   refine O_m rfl ?_
   refine O_yy 9 hs rfl rfl (Y_move rfl ?_)
   refine O_yes 9 rfl rfl (S_call (H1 := []) hs rfl Tryz.func95 rfl (by kernel_rfl) (sidx_ok (s := [33, 38, 40, 41, 42, 43, 45, 46, 63, 91, 92, 93, 94, 123, 124, 125, 126]) (x := x)) fun v1 G' H' _ hR hG11 hs => ?_)
   obtain ⟨rfl, z, rfl, hz⟩ := hR
   replace hs : St _ _ [] _ := hs
   refine O_yy 9 hs rfl rfl (Y_cmpS rfl rfl rfl (fun h12 => ?_) (fun h12 => ?_))
   ·
    dsimp only [cmpP] at h12
    refine O_y hs (Y_pickT rfl rfl ?_)
    refine O_a rfl ?_
    refine O_nil (T_kp [2] rfl ?_)
    refine T_ret ?_
    refine Rt_fin (vs := [_]) Tryz.results77 rfl ⟨rfl, trivial⟩ ?_
    try dsimp only [tup]
    exact ⟨_, [], hs.done, rfl, congrArg Value.bool (plain_2 (by omega) (by omega) (Bool.eq_false_iff.2 fun h => by have := hz.2 h; omega)).symm⟩
   ·
    dsimp only [cmpP] at h12
    refine O_y hs (Y_pickT rfl rfl ?_)
    refine O_a rfl ?_
    refine O_nil (T_kp [2] rfl ?_)
    refine T_ret ?_
    refine Rt_fin (vs := [_]) Tryz.results77 rfl ⟨rfl, trivial⟩ ?_
    try dsimp only [tup]
    exact ⟨_, [], hs.done, rfl, congrArg Value.bool (plain_3 (hz.1 (by omega))).symm⟩
  ·
   dsimp only [cmpP] at h7
   refine O_y hs (Y_pickT rfl rfl ?_)
   refine O_m rfl ?_
   refine O_no 9 rfl rfl ?_
   refine O_no 9 rfl rfl ?_
   refine O_no 9 rfl rfl ?_
   refine O_y hs (Y_pickF rfl rfl ?_)
   refine O_a rfl ?_
   refine O_nil (T_kp [2] rfl ?_)
   refine T_ret ?_
   refine Rt_fin (vs := [_]) Tryz.results77 rfl ⟨rfl, trivial⟩ ?_
   try dsimp only [tup]
   exact ⟨_, [], hs.done, rfl, congrArg Value.bool (plain_1 (by omega)).symm⟩
 ·
  dsimp only [cmpP] at h4
  refine O_m rfl ?_
  refine O_no 5 rfl rfl ?_
  refine O_no 5 rfl rfl ?_
  refine O_y hs (Y_pickF rfl rfl ?_)
  refine O_m rfl ?_
  refine O_no 9 rfl rfl ?_
  refine O_no 9 rfl rfl ?_
  refine O_no 9 rfl rfl ?_
  refine O_y hs (Y_pickF rfl rfl ?_)
  refine O_a rfl ?_
  refine O_nil (T_kp [2] rfl ?_)
  refine T_ret ?_
  refine Rt_fin (vs := [_]) Tryz.results77 rfl ⟨rfl, trivial⟩ ?_
  try dsimp only [tup]
  exact ⟨_, [], hs.done, rfl, congrArg Value.bool (plain_1 (by omega)).symm⟩

set_option maxHeartbeats 400000 in
set_option maxRecDepth 10000 in
theorem hexp_ok {G : Ghost} {p : Nat} {s : List UInt8} {q : Nat} {v : Value} (hq : q ≤ s.length) (hl : s.length ≤ 2000000) :
  FnX Tryz.prog 126 [.pointer (some ⟨p, 0, none⟩)] G [.blk p 57 [.string ⟨s.toArray⟩, .int .i64 (q : Int), v]] (fun r _ H' => ∃ y : UInt8, hexP s q = .ok (y, q + 1) ∧ r = .int .u8 (y.toNat : Int) ∧ H' = [.blk p 57 [.string ⟨s.toArray⟩, .int .i64 ((q + 1 : Nat) : Int), v]]) (fun x _ => hexP s q = .error (unexp s q) ∧ x = errV (unexp s q)) := by
 have hsz := bsz s
 have hpr := peek_rng s q
 refine FnX.of_T [(0, _)] Tryz.func126 rfl Tryz.ntmps126 (by simp) rfl fun w0 hs => ?_
 refine T_seq (T_region rfl ?_)
 refine O_a rfl ?_
 refine O_nil (T_kp [0] rfl ?_)
 refine T_seq (T_region rfl ?_)
 refine O_m rfl ?_
 refine O_s (S_call (H1 := [_]) hs rfl Tryz.func70 rfl (by kernel_rfl) (peek_ok (q := q) (by omega) hl) fun v1 G' H' _ hR hG5 hs => ?_)
 obtain ⟨rfl, rfl⟩ := hR
 replace hs : St _ _ [_] _ := hs
 refine O_a rfl ?_
 refine O_nil (T_kp [0, 3] rfl ?_)
 refine T_seq (T_block (T_seq (T_region rfl ?_)))
 refine O_m rfl ?_
 refine O_y hs (Y_cmpS rfl rfl rfl (fun h10 => ?_) (fun h10 => ?_))
 ·
  dsimp only [cmpP] at h10
  refine O_m rfl ?_
  refine O_yy 11 hs rfl rfl (Y_move rfl ?_)
  refine O_yy 11 hs rfl rfl (Y_cmpS rfl rfl rfl (fun h13 => ?_) (fun h13 => ?_))
  ·
   dsimp only [cmpP] at h13
   refine O_y hs (Y_pickT rfl rfl ?_)
   refine O_a rfl ?_
   refine O_nil (T_kp [0, 3, 8] rfl ?_)
   refine T_condT rfl (T_region rfl ?_)
   refine O_m rfl ?_
   refine O_y hs (Y_sub (c := (peekI s q - 48)) rfl rfl (by omega) (by omega) ?_)
   refine O_a rfl ?_
   refine O_nil (T_kp [0, 3] rfl ?_)
   refine T_seq (T_region rfl ?_)
   refine O_m rfl ?_
   refine O_y hs (Y_nil rfl ?_)
   refine O_y hs (Y_fieldAddr FO57_1 rfl (m := 1) rfl ?_)
   refine O_y hs (Y_ld 0 Tryz.isAgg3 rfl rfl rfl ?_)
   refine O_y hs (Y_add (c := ((q + 1 : Nat) : Int)) rfl rfl (by omega) (by omega) ?_)
   refine O_y hs (Y_nil rfl ?_)
   refine O_y hs (Y_fieldAddr FO57_1 rfl (m := 1) rfl ?_)
   refine O_n (S_st hs Tryz.sizeOf3 rfl rfl rfl (by simp) (cs' := [_, _, _]) rfl fun _ hs => ?_)
   refine O_nil (T_kp [3] rfl ?_)
   refine T_seq (T_region rfl ?_)
   refine O_m rfl ?_
   refine O_y hs (Y_conv Tryz.underlying3 Tryz.underlying5 rfl (rfl) ?_)
   refine O_a rfl ?_
   refine O_nil (T_kp [2] rfl ?_)
   refine T_ret ?_
   refine RtX_fin (vs := [_]) Tryz.results126 rfl ⟨rfl, trivial⟩ ?_
   try dsimp only [tup]
   obtain ⟨y, hy, hw⟩ := hexP_some (s := s) (q := q) (k := 48) (by omega)
   exact ⟨_, _, hs, y, hy, congrArg (Value.int .u8) hw, rfl⟩
  ·
   dsimp only [cmpP] at h13
   refine O_y hs (Y_pickT rfl rfl ?_)
   refine O_a rfl ?_
   refine O_nil (T_kp [0, 3, 8] rfl ?_)
   refine T_condF rfl (T_seq (T_region rfl ?_))
   refine O_m rfl ?_
   refine O_y hs (Y_cmpS rfl rfl rfl (fun h19 => ?_) (fun h19 => ?_))
   ·
    dsimp only [cmpP] at h19
    refine O_m rfl ?_
    refine O_yy 20 hs rfl rfl (Y_move rfl ?_)
    refine O_yy 20 hs rfl rfl (Y_cmpS rfl rfl rfl (fun h22 => ?_) (fun h22 => ?_))
    ·
     dsimp only [cmpP] at h22
     refine O_y hs (Y_pickT rfl rfl ?_)
     refine O_a rfl ?_
     refine O_nil (T_kp [0, 3, 17] rfl ?_)
     refine T_condT rfl (T_region rfl ?_)
     refine O_m rfl ?_
     refine O_y hs (Y_sub (c := (peekI s q - 87)) rfl rfl (by omega) (by omega) ?_)
     refine O_a rfl ?_
     refine O_nil (T_kp [0, 3] rfl ?_)
     refine T_seq (T_region rfl ?_)
     refine O_m rfl ?_
     refine O_y hs (Y_nil rfl ?_)
     refine O_y hs (Y_fieldAddr FO57_1 rfl (m := 1) rfl ?_)
     refine O_y hs (Y_ld 0 Tryz.isAgg3 rfl rfl rfl ?_)
     refine O_y hs (Y_add (c := ((q + 1 : Nat) : Int)) rfl rfl (by omega) (by omega) ?_)
     refine O_y hs (Y_nil rfl ?_)
     refine O_y hs (Y_fieldAddr FO57_1 rfl (m := 1) rfl ?_)
     refine O_n (S_st hs Tryz.sizeOf3 rfl rfl rfl (by simp) (cs' := [_, _, _]) rfl fun _ hs => ?_)
     refine O_nil (T_kp [3] rfl ?_)
     refine T_seq (T_region rfl ?_)
     refine O_m rfl ?_
     refine O_y hs (Y_conv Tryz.underlying3 Tryz.underlying5 rfl (rfl) ?_)
     refine O_a rfl ?_
     refine O_nil (T_kp [2] rfl ?_)
     refine T_ret ?_
     refine RtX_fin (vs := [_]) Tryz.results126 rfl ⟨rfl, trivial⟩ ?_
     try dsimp only [tup]
     obtain ⟨y, hy, hw⟩ := hexP_some (s := s) (q := q) (k := 87) (by omega)
     exact ⟨_, _, hs, y, hy, congrArg (Value.int .u8) hw, rfl⟩
    ·
     dsimp only [cmpP] at h22
     refine O_y hs (Y_pickT rfl rfl ?_)
     refine O_a rfl ?_
     refine O_nil (T_kp [0, 3, 17] rfl ?_)
     refine T_condF rfl (T_seq (T_region rfl ?_))
     refine O_m rfl ?_
     refine O_y hs (Y_cmpS rfl rfl rfl (fun h28 => ?_) (fun h28 => ?_))
     ·
      dsimp only [cmpP] at h28
      refine O_m rfl ?_
      refine O_yy 29 hs rfl rfl (Y_move rfl ?_)
      refine O_yy 29 hs rfl rfl (Y_cmpS rfl rfl rfl (fun h31 => ?_) (fun h31 => ?_))
      ·
       dsimp only [cmpP] at h31
       refine O_y hs (Y_pickT rfl rfl ?_)
       refine O_a rfl ?_
       refine O_nil (T_kp [0, 3, 26] rfl ?_)
       refine T_condT rfl (T_region rfl ?_)
       refine O_m rfl ?_
       refine O_y hs (Y_sub (c := (peekI s q - 55)) rfl rfl (by omega) (by omega) ?_)
       refine O_a rfl ?_
       refine O_nil (T_kp [0, 3] rfl ?_)
       refine T_seq (T_region rfl ?_)
       refine O_m rfl ?_
       refine O_y hs (Y_nil rfl ?_)
       refine O_y hs (Y_fieldAddr FO57_1 rfl (m := 1) rfl ?_)
       refine O_y hs (Y_ld 0 Tryz.isAgg3 rfl rfl rfl ?_)
       refine O_y hs (Y_add (c := ((q + 1 : Nat) : Int)) rfl rfl (by omega) (by omega) ?_)
       refine O_y hs (Y_nil rfl ?_)
       refine O_y hs (Y_fieldAddr FO57_1 rfl (m := 1) rfl ?_)
       refine O_n (S_st hs Tryz.sizeOf3 rfl rfl rfl (by simp) (cs' := [_, _, _]) rfl fun _ hs => ?_)
       refine O_nil (T_kp [3] rfl ?_)
       refine T_seq (T_region rfl ?_)
       refine O_m rfl ?_
       refine O_y hs (Y_conv Tryz.underlying3 Tryz.underlying5 rfl (rfl) ?_)
       refine O_a rfl ?_
       refine O_nil (T_kp [2] rfl ?_)
       refine T_ret ?_
       refine RtX_fin (vs := [_]) Tryz.results126 rfl ⟨rfl, trivial⟩ ?_
       try dsimp only [tup]
       obtain ⟨y, hy, hw⟩ := hexP_some (s := s) (q := q) (k := 55) (by omega)
       exact ⟨_, _, hs, y, hy, congrArg (Value.int .u8) hw, rfl⟩
      ·
       dsimp only [cmpP] at h31
       refine O_y hs (Y_pickT rfl rfl ?_)
       refine O_a rfl ?_
       refine O_nil (T_kp [0, 3, 26] rfl ?_)
       refine T_condF rfl (T_region rfl ?_)
       refine O_m rfl ?_
       refine O_s (S_callX (H1 := [_]) hs rfl Tryz.func34 rfl (by kernel_rfl) (unexp_ok (q := q) (by omega) hl) (fun v G' w' hX hG hs => RtX_panic rfl ⟨_, hs.done, ⟨hexP_none (by omega) (by omega) (by omega), hX⟩⟩) fun v2 G' H' _ hR hG7 hs => ?_)
       exact hR.elim
     ·
      dsimp only [cmpP] at h28
      refine O_m rfl ?_
      refine O_no 29 rfl rfl ?_
      refine O_no 29 rfl rfl ?_
      refine O_y hs (Y_pickF rfl rfl ?_)
      refine O_a rfl ?_
      refine O_nil (T_kp [0, 3, 26] rfl ?_)
      refine T_condF rfl (T_region rfl ?_)
      refine O_m rfl ?_
      refine O_s (S_callX (H1 := [_]) hs rfl Tryz.func34 rfl (by kernel_rfl) (unexp_ok (q := q) (by omega) hl) (fun v G' w' hX hG hs => RtX_panic rfl ⟨_, hs.done, ⟨hexP_none (by omega) (by omega) (by omega), hX⟩⟩) fun v3 G' H' _ hR hG7 hs => ?_)
      exact hR.elim
   ·
    dsimp only [cmpP] at h19
    refine O_m rfl ?_
    refine O_no 20 rfl rfl ?_
    refine O_no 20 rfl rfl ?_
    refine O_y hs (Y_pickF rfl rfl ?_)
    refine O_a rfl ?_
    refine O_nil (T_kp [0, 3, 17] rfl ?_)
    refine T_condF rfl (T_seq (T_region rfl ?_))
    refine O_m rfl ?_
    refine O_y hs (Y_cmpS rfl rfl rfl (fun h28 => ?_) (fun h28 => ?_))
    ·
     dsimp only [cmpP] at h28
     refine O_m rfl ?_
     refine O_yy 29 hs rfl rfl (Y_move rfl ?_)
     refine O_yy 29 hs rfl rfl (Y_cmpS rfl rfl rfl (fun h31 => ?_) (fun h31 => ?_))
     ·
      dsimp only [cmpP] at h31
      refine O_y hs (Y_pickT rfl rfl ?_)
      refine O_a rfl ?_
      refine O_nil (T_kp [0, 3, 26] rfl ?_)
      refine T_condT rfl (T_region rfl ?_)
      refine O_m rfl ?_
      refine O_y hs (Y_sub (c := (peekI s q - 55)) rfl rfl (by omega) (by omega) ?_)
      refine O_a rfl ?_
      refine O_nil (T_kp [0, 3] rfl ?_)
      refine T_seq (T_region rfl ?_)
      refine O_m rfl ?_
      refine O_y hs (Y_nil rfl ?_)
      refine O_y hs (Y_fieldAddr FO57_1 rfl (m := 1) rfl ?_)
      refine O_y hs (Y_ld 0 Tryz.isAgg3 rfl rfl rfl ?_)
      refine O_y hs (Y_add (c := ((q + 1 : Nat) : Int)) rfl rfl (by omega) (by omega) ?_)
      refine O_y hs (Y_nil rfl ?_)
      refine O_y hs (Y_fieldAddr FO57_1 rfl (m := 1) rfl ?_)
      refine O_n (S_st hs Tryz.sizeOf3 rfl rfl rfl (by simp) (cs' := [_, _, _]) rfl fun _ hs => ?_)
      refine O_nil (T_kp [3] rfl ?_)
      refine T_seq (T_region rfl ?_)
      refine O_m rfl ?_
      refine O_y hs (Y_conv Tryz.underlying3 Tryz.underlying5 rfl (rfl) ?_)
      refine O_a rfl ?_
      refine O_nil (T_kp [2] rfl ?_)
      refine T_ret ?_
      refine RtX_fin (vs := [_]) Tryz.results126 rfl ⟨rfl, trivial⟩ ?_
      try dsimp only [tup]
      obtain ⟨y, hy, hw⟩ := hexP_some (s := s) (q := q) (k := 55) (by omega)
      exact ⟨_, _, hs, y, hy, congrArg (Value.int .u8) hw, rfl⟩
     ·
      dsimp only [cmpP] at h31
      refine O_y hs (Y_pickT rfl rfl ?_)
      refine O_a rfl ?_
      refine O_nil (T_kp [0, 3, 26] rfl ?_)
      refine T_condF rfl (T_region rfl ?_)
      refine O_m rfl ?_
      refine O_s (S_callX (H1 := [_]) hs rfl Tryz.func34 rfl (by kernel_rfl) (unexp_ok (q := q) (by omega) hl) (fun v G' w' hX hG hs => RtX_panic rfl ⟨_, hs.done, ⟨hexP_none (by omega) (by omega) (by omega), hX⟩⟩) fun v4 G' H' _ hR hG7 hs => ?_)
      exact hR.elim
    ·
     dsimp only [cmpP] at h28
     refine O_m rfl ?_
     refine O_no 29 rfl rfl ?_
     refine O_no 29 rfl rfl ?_
     refine O_y hs (Y_pickF rfl rfl ?_)
     refine O_a rfl ?_
     refine O_nil (T_kp [0, 3, 26] rfl ?_)
     refine T_condF rfl (T_region rfl ?_)
     refine O_m rfl ?_
     refine O_s (S_callX (H1 := [_]) hs rfl Tryz.func34 rfl (by kernel_rfl) (unexp_ok (q := q) (by omega) hl) (fun v G' w' hX hG hs => RtX_panic rfl ⟨_, hs.done, ⟨hexP_none (by omega) (by omega) (by omega), hX⟩⟩) fun v5 G' H' _ hR hG7 hs => ?_)
     exact hR.elim
 ·
  dsimp only [cmpP] at h10
  refine O_m rfl ?_
  refine O_no 11 rfl rfl ?_
  refine O_no 11 rfl rfl ?_
  refine O_y hs (Y_pickF rfl rfl ?_)
  refine O_a rfl ?_
  refine O_nil (T_kp [0, 3, 8] rfl ?_)
  refine T_condF rfl (T_seq (T_region rfl ?_))
  refine O_m rfl ?_
  refine O_y hs (Y_cmpS rfl rfl rfl (fun h19 => ?_) (fun h19 => ?_))
  ·
   dsimp only [cmpP] at h19
   refine O_m rfl ?_
   refine O_yy 20 hs rfl rfl (Y_move rfl ?_)
   refine O_yy 20 hs rfl rfl (Y_cmpS rfl rfl rfl (fun h22 => ?_) (fun h22 => ?_))
   ·
    dsimp only [cmpP] at h22
    refine O_y hs (Y_pickT rfl rfl ?_)
    refine O_a rfl ?_
    refine O_nil (T_kp [0, 3, 17] rfl ?_)
    refine T_condT rfl (T_region rfl ?_)
    refine O_m rfl ?_
    refine O_y hs (Y_sub (c := (peekI s q - 87)) rfl rfl (by omega) (by omega) ?_)
    refine O_a rfl ?_
    refine O_nil (T_kp [0, 3] rfl ?_)
    refine T_seq (T_region rfl ?_)
    refine O_m rfl ?_
    refine O_y hs (Y_nil rfl ?_)
    refine O_y hs (Y_fieldAddr FO57_1 rfl (m := 1) rfl ?_)
    refine O_y hs (Y_ld 0 Tryz.isAgg3 rfl rfl rfl ?_)
    refine O_y hs (Y_add (c := ((q + 1 : Nat) : Int)) rfl rfl (by omega) (by omega) ?_)
    refine O_y hs (Y_nil rfl ?_)
    refine O_y hs (Y_fieldAddr FO57_1 rfl (m := 1) rfl ?_)
    refine O_n (S_st hs Tryz.sizeOf3 rfl rfl rfl (by simp) (cs' := [_, _, _]) rfl fun _ hs => ?_)
    refine O_nil (T_kp [3] rfl ?_)
    refine T_seq (T_region rfl ?_)
    refine O_m rfl ?_
    refine O_y hs (Y_conv Tryz.underlying3 Tryz.underlying5 rfl (rfl) ?_)
    refine O_a rfl ?_
    refine O_nil (T_kp [2] rfl ?_)
    refine T_ret ?_
    refine RtX_fin (vs := [_]) Tryz.results126 rfl ⟨rfl, trivial⟩ ?_
    try dsimp only [tup]
    obtain ⟨y, hy, hw⟩ := hexP_some (s := s) (q := q) (k := 87) (by omega)
    exact ⟨_, _, hs, y, hy, congrArg (Value.int .u8) hw, rfl⟩
   ·
    dsimp only [cmpP] at h22
    refine O_y hs (Y_pickT rfl rfl ?_)
    refine O_a rfl ?_
    refine O_nil (T_kp [0, 3, 17] rfl ?_)
    refine T_condF rfl (T_seq (T_region rfl ?_))
    refine O_m rfl ?_
    refine O_y hs (Y_cmpS rfl rfl rfl (fun h28 => ?_) (fun h28 => ?_))
    ·
     dsimp only [cmpP] at h28
     refine O_m rfl ?_
     refine O_yy 29 hs rfl rfl (Y_move rfl ?_)
     refine O_yy 29 hs rfl rfl (Y_cmpS rfl rfl rfl (fun h31 => ?_) (fun h31 => ?_))
     ·
      dsimp only [cmpP] at h31
      refine O_y hs (Y_pickT rfl rfl ?_)
      refine O_a rfl ?_
      refine O_nil (T_kp [0, 3, 26] rfl ?_)
      refine T_condT rfl (T_region rfl ?_)
      refine O_m rfl ?_
      refine O_y hs (Y_sub (c := (peekI s q - 55)) rfl rfl (by omega) (by omega) ?_)
      refine O_a rfl ?_
      refine O_nil (T_kp [0, 3] rfl ?_)
      refine T_seq (T_region rfl ?_)
      refine O_m rfl ?_
      refine O_y hs (Y_nil rfl ?_)
      refine O_y hs (Y_fieldAddr FO57_1 rfl (m := 1) rfl ?_)
      refine O_y hs (Y_ld 0 Tryz.isAgg3 rfl rfl rfl ?_)
      refine O_y hs (Y_add (c := ((q + 1 : Nat) : Int)) rfl rfl (by omega) (by omega) ?_)
      refine O_y hs (Y_nil rfl ?_)
      refine O_y hs (Y_fieldAddr FO57_1 rfl (m := 1) rfl ?_)
      refine O_n (S_st hs Tryz.sizeOf3 rfl rfl rfl (by simp) (cs' := [_, _, _]) rfl fun _ hs => ?_)
      refine O_nil (T_kp [3] rfl ?_)
      refine T_seq (T_region rfl ?_)
      refine O_m rfl ?_
      refine O_y hs (Y_conv Tryz.underlying3 Tryz.underlying5 rfl (rfl) ?_)
      refine O_a rfl ?_
      refine O_nil (T_kp [2] rfl ?_)
      refine T_ret ?_
      refine RtX_fin (vs := [_]) Tryz.results126 rfl ⟨rfl, trivial⟩ ?_
      try dsimp only [tup]
      obtain ⟨y, hy, hw⟩ := hexP_some (s := s) (q := q) (k := 55) (by omega)
      exact ⟨_, _, hs, y, hy, congrArg (Value.int .u8) hw, rfl⟩
     ·
      dsimp only [cmpP] at h31
      refine O_y hs (Y_pickT rfl rfl ?_)
      refine O_a rfl ?_
      refine O_nil (T_kp [0, 3, 26] rfl ?_)
      refine T_condF rfl (T_region rfl ?_)
      refine O_m rfl ?_
      refine O_s (S_callX (H1 := [_]) hs rfl Tryz.func34 rfl (by kernel_rfl) (unexp_ok (q := q) (by omega) hl) (fun v G' w' hX hG hs => RtX_panic rfl ⟨_, hs.done, ⟨hexP_none (by omega) (by omega) (by omega), hX⟩⟩) fun v6 G' H' _ hR hG7 hs => ?_)
      exact hR.elim
    ·
     dsimp only [cmpP] at h28
     refine O_m rfl ?_
     refine O_no 29 rfl rfl ?_
     refine O_no 29 rfl rfl ?_
     refine O_y hs (Y_pickF rfl rfl ?_)
     refine O_a rfl ?_
     refine O_nil (T_kp [0, 3, 26] rfl ?_)
     refine T_condF rfl (T_region rfl ?_)
     refine O_m rfl ?_
     refine O_s (S_callX (H1 := [_]) hs rfl Tryz.func34 rfl (by kernel_rfl) (unexp_ok (q := q) (by omega) hl) (fun v G' w' hX hG hs => RtX_panic rfl ⟨_, hs.done, ⟨hexP_none (by omega) (by omega) (by omega), hX⟩⟩) fun v7 G' H' _ hR hG7 hs => ?_)
     exact hR.elim
  ·
   dsimp only [cmpP] at h19
   refine O_m rfl ?_
   refine O_no 20 rfl rfl ?_
   refine O_no 20 rfl rfl ?_
   refine O_y hs (Y_pickF rfl rfl ?_)
   refine O_a rfl ?_
   refine O_nil (T_kp [0, 3, 17] rfl ?_)
   refine T_condF rfl (T_seq (T_region rfl ?_))
   refine O_m rfl ?_
   refine O_y hs (Y_cmpS rfl rfl rfl (fun h28 => ?_) (fun h28 => ?_))
   ·
    dsimp only [cmpP] at h28
    refine O_m rfl ?_
    refine O_yy 29 hs rfl rfl (Y_move rfl ?_)
    refine O_yy 29 hs rfl rfl (Y_cmpS rfl rfl rfl (fun h31 => ?_) (fun h31 => ?_))
    ·
     dsimp only [cmpP] at h31
     refine O_y hs (Y_pickT rfl rfl ?_)
     refine O_a rfl ?_
     refine O_nil (T_kp [0, 3, 26] rfl ?_)
     refine T_condT rfl (T_region rfl ?_)
     refine O_m rfl ?_
     refine O_y hs (Y_sub (c := (peekI s q - 55)) rfl rfl (by omega) (by omega) ?_)
     refine O_a rfl ?_
     refine O_nil (T_kp [0, 3] rfl ?_)
     refine T_seq (T_region rfl ?_)
     refine O_m rfl ?_
     refine O_y hs (Y_nil rfl ?_)
     refine O_y hs (Y_fieldAddr FO57_1 rfl (m := 1) rfl ?_)
     refine O_y hs (Y_ld 0 Tryz.isAgg3 rfl rfl rfl ?_)
     refine O_y hs (Y_add (c := ((q + 1 : Nat) : Int)) rfl rfl (by omega) (by omega) ?_)
     refine O_y hs (Y_nil rfl ?_)
     refine O_y hs (Y_fieldAddr FO57_1 rfl (m := 1) rfl ?_)
     refine O_n (S_st hs Tryz.sizeOf3 rfl rfl rfl (by simp) (cs' := [_, _, _]) rfl fun _ hs => ?_)
     refine O_nil (T_kp [3] rfl ?_)
     refine T_seq (T_region rfl ?_)
     refine O_m rfl ?_
     refine O_y hs (Y_conv Tryz.underlying3 Tryz.underlying5 rfl (rfl) ?_)
     refine O_a rfl ?_
     refine O_nil (T_kp [2] rfl ?_)
     refine T_ret ?_
     refine RtX_fin (vs := [_]) Tryz.results126 rfl ⟨rfl, trivial⟩ ?_
     try dsimp only [tup]
     obtain ⟨y, hy, hw⟩ := hexP_some (s := s) (q := q) (k := 55) (by omega)
     exact ⟨_, _, hs, y, hy, congrArg (Value.int .u8) hw, rfl⟩
    ·
     dsimp only [cmpP] at h31
     refine O_y hs (Y_pickT rfl rfl ?_)
     refine O_a rfl ?_
     refine O_nil (T_kp [0, 3, 26] rfl ?_)
     refine T_condF rfl (T_region rfl ?_)
     refine O_m rfl ?_
     refine O_s (S_callX (H1 := [_]) hs rfl Tryz.func34 rfl (by kernel_rfl) (unexp_ok (q := q) (by omega) hl) (fun v G' w' hX hG hs => RtX_panic rfl ⟨_, hs.done, ⟨hexP_none (by omega) (by omega) (by omega), hX⟩⟩) fun v8 G' H' _ hR hG7 hs => ?_)
     exact hR.elim
   ·
    dsimp only [cmpP] at h28
    refine O_m rfl ?_
    refine O_no 29 rfl rfl ?_
    refine O_no 29 rfl rfl ?_
    refine O_y hs (Y_pickF rfl rfl ?_)
    refine O_a rfl ?_
    refine O_nil (T_kp [0, 3, 26] rfl ?_)
    refine T_condF rfl (T_region rfl ?_)
    refine O_m rfl ?_
    refine O_s (S_callX (H1 := [_]) hs rfl Tryz.func34 rfl (by kernel_rfl) (unexp_ok (q := q) (by omega) hl) (fun v G' w' hX hG hs => RtX_panic rfl ⟨_, hs.done, ⟨hexP_none (by omega) (by omega) (by omega), hX⟩⟩) fun v9 G' H' _ hR hG7 hs => ?_)
    exact hR.elim

theorem u8_16 (h l : UInt8) : IntKind.u8.wrap (IntKind.u8.wrap (16 * (h.toNat : Int)) + (l.toNat : Int)) = ((16 * h + l).toNat : Int) := by
  rw [IntKind.wrap_u8, IntKind.wrap_u8, UInt8.toNat_add, UInt8.toNat_mul, show (16 : UInt8).toNat = 16 from rfl]
  omega
theorem charP_x {s : List UInt8} {q : Nat} {a b : UInt8} (h1 : isB s q 92 = true) (h2 : isB s (q + 1) 120 = true) (h3 : hexP s (q + 1 + 1) = .ok (a, q + 1 + 1 + 1)) (h4 : hexP s (q + 1 + 1 + 1) = .ok (b, q + 1 + 1 + 1 + 1)) : charP s q = .ok (16 * a + b, q + 1 + 1 + 1 + 1) := by
  unfold charP; rw [if_pos h1, if_pos h2, show q + 2 = q + 1 + 1 from rfl, h3]; dsimp only; rw [h4]
theorem charP_x1 {s : List UInt8} {q : Nat} (h1 : isB s q 92 = true) (h2 : isB s (q + 1) 120 = false) : charP s q = .error (unexp s (q + 1)) := by
  unfold charP; rw [if_pos h1, if_neg (by rw [h2]; simp)]
theorem charP_x2 {s : List UInt8} {q : Nat} {e : Er} (h1 : isB s q 92 = true) (h2 : isB s (q + 1) 120 = true) (h3 : hexP s (q + 1 + 1) = .error e) : charP s q = .error e := by
  unfold charP; rw [if_pos h1, if_pos h2, show q + 2 = q + 1 + 1 from rfl, h3]
theorem charP_x3 {s : List UInt8} {q : Nat} {a : UInt8} {e : Er} (h1 : isB s q 92 = true) (h2 : isB s (q + 1) 120 = true) (h3 : hexP s (q + 1 + 1) = .ok (a, q + 1 + 1 + 1)) (h4 : hexP s (q + 1 + 1 + 1) = .error e) : charP s q = .error e := by
  unfold charP; rw [if_pos h1, if_pos h2, show q + 2 = q + 1 + 1 from rfl, h3]; dsimp only; rw [h4]
theorem charP_p {s : List UInt8} {q : Nat} (h1 : isB s q 92 = false) (h : q < s.length) (h2 : plainB s[q] = true) : charP s q = .ok (s[q], q + 1) := by
  unfold charP; rw [if_neg (by rw [h1]; simp), List.getElem?_eq_getElem h]; dsimp only; rw [if_pos h2]
theorem charP_n {s : List UInt8} {q : Nat} (h1 : isB s q 92 = false) (h : ∀ hlt : q < s.length, plainB s[q] = false) : charP s q = .error (unexp s q) := by
  unfold charP; rw [if_neg (by rw [h1]; simp)]
  rcases Nat.lt_or_ge q s.length with h' | h'
  · rw [List.getElem?_eq_getElem h']; dsimp only; rw [if_neg (by rw [h h']; simp)]
  · rw [List.getElem?_eq_none h']


set_option maxHeartbeats 400000 in
set_option maxRecDepth 10000 in
theorem char_ok {G : Ghost} {p : Nat} {s : List UInt8} {q : Nat} {v : Value} (hq : q ≤ s.length) (hl : s.length ≤ 2000000) :
  FnX Tryz.prog 111 [.pointer (some ⟨p, 0, none⟩)] G [.blk p 57 [.string ⟨s.toArray⟩, .int .i64 (q : Int), v]] (fun r _ H' => ∃ (y : UInt8) (q2 : Nat), charP s q = .ok (y, q2) ∧ q2 ≤ s.length ∧ r = .int .u8 (y.toNat : Int) ∧ H' = [.blk p 57 [.string ⟨s.toArray⟩, .int .i64 (q2 : Int), v]]) (fun x _ => ∃ e, charP s q = .error e ∧ x = errV e) := by
 have hsz := bsz s
 have hpr := peek_rng s q
 refine FnX.of_T [(0, _)] Tryz.func111 rfl Tryz.ntmps111 (by simp) rfl fun w0 hs => ?_
 refine T_seq (T_region rfl ?_)
 refine O_a rfl ?_
 refine O_nil (T_kp [0] rfl ?_)
 refine T_seq (T_seq (T_region rfl ?_))
 refine O_m rfl ?_
 cases hb5 : isB s q 92
 ·
  refine O_s (S_call (H1 := [_]) hs rfl Tryz.func49 rfl (by kernel_rfl) (accept_f (q := q) (b := 92) (by omega) hl hb5) fun v1 G' H' _ hR hG5 hs => ?_)
  obtain ⟨rfl, rfl⟩ := hR
  replace hs : St _ _ [_] _ := hs
  refine O_nil (T_kp [0, 5] rfl ?_)
  refine T_condF rfl (T_skip ?_)
  refine T_seq (T_seq (T_region rfl ?_))
  refine O_m rfl ?_
  refine O_s (S_call (H1 := [_]) hs rfl Tryz.func70 rfl (by kernel_rfl) (peek_ok (q := q) (by omega) hl) fun v2 G' H' _ hR hG15 hs => ?_)
  obtain ⟨rfl, rfl⟩ := hR
  replace hs : St _ _ [_] _ := hs
  refine O_a rfl ?_
  refine O_nil (T_kp [0, 3] rfl ?_)
  refine T_seq (T_region rfl ?_)
  refine O_m rfl ?_
  refine O_y hs (Y_cmpS rfl rfl rfl (fun h17 => ?_) (fun h17 => ?_))
  ·
   dsimp only [cmpP] at h17
   refine O_m rfl ?_
   refine O_no 18 rfl rfl ?_
   refine O_no 18 rfl rfl ?_
   refine O_no 18 rfl rfl ?_
   refine O_no 18 rfl rfl ?_
   refine O_y hs (Y_pickT rfl rfl ?_)
   refine O_nil (T_kp [0, 23] rfl ?_)
   refine T_condT rfl (T_region rfl ?_)
   refine O_m rfl ?_
   refine O_s (S_callX (H1 := [_]) hs rfl Tryz.func34 rfl (by kernel_rfl) (unexp_ok (q := q) (by omega) hl) (fun v G' w' hX hG hs => RtX_panic rfl ⟨_, hs.done, ⟨_, charP_n hb5 (fun hlt2 => by first | (exfalso; have := peek_at hlt2; omega) | exact h21), hX⟩⟩) fun v3 G' H' _ hR hG25 hs => ?_)
   exact hR.elim
  ·
   dsimp only [cmpP] at h17
   have hlt := peek_lt (s := s) (q := q) (by omega)
   have hpa := peek_at hlt
   refine O_m rfl ?_
   refine O_yy 18 hs rfl rfl (Y_move rfl ?_)
   refine O_yy 18 hs rfl rfl (Y_conv Tryz.underlying3 Tryz.underlying5 (c := ((s[q]'hlt).toNat : Int)) rfl (by rw [hpa, IntKind.wrap_u8]; have := (s[q]'hlt).toNat_lt; omega) ?_)
   refine O_yes 18 rfl rfl (S_call (H1 := []) hs rfl Tryz.func77 rfl (by kernel_rfl) (plain_ok (x := s[q]'hlt)) fun v4 G' H' _ hR hG21 hs => ?_)
   obtain ⟨rfl, rfl⟩ := hR
   replace hs : St _ _ [_] _ := hs
   cases h21 : plainB (s[q]'hlt)
   ·
    refine O_yy 18 hs rfl rfl (Y_not rfl ?_)
    refine O_y hs (Y_pickF rfl rfl ?_)
    refine O_nil (T_kp [0, 23] rfl ?_)
    refine T_condT rfl (T_region rfl ?_)
    refine O_m rfl ?_
    refine O_s (S_callX (H1 := [_]) hs rfl Tryz.func34 rfl (by kernel_rfl) (unexp_ok (q := q) (by omega) hl) (fun v G' w' hX hG hs => RtX_panic rfl ⟨_, hs.done, ⟨_, charP_n hb5 (fun hlt2 => by first | (exfalso; have := peek_at hlt2; omega) | exact h21), hX⟩⟩) fun v5 G' H' _ hR hG25 hs => ?_)
    exact hR.elim
   ·
    refine O_yy 18 hs rfl rfl (Y_not rfl ?_)
    refine O_y hs (Y_pickF rfl rfl ?_)
    refine O_nil (T_kp [0, 23] rfl ?_)
    refine T_condF rfl (T_skip ?_)
    refine T_seq (T_region rfl ?_)
    refine O_m rfl ?_
    refine O_y hs (Y_nil rfl ?_)
    refine O_y hs (Y_fieldAddr FO57_1 rfl (m := 1) rfl ?_)
    refine O_y hs (Y_ld 0 Tryz.isAgg3 rfl rfl rfl ?_)
    refine O_y hs (Y_add (c := ((q + 1 : Nat) : Int)) rfl rfl (by omega) (by omega) ?_)
    refine O_y hs (Y_nil rfl ?_)
    refine O_y hs (Y_fieldAddr FO57_1 rfl (m := 1) rfl ?_)
    refine O_n (S_st hs Tryz.sizeOf3 rfl rfl rfl (by simp) (cs' := [_, _, _]) rfl fun _ hs => ?_)
    refine O_nil (T_kp [0] rfl ?_)
    refine T_seq (T_drawS [0, 1, 2, 3, 4, 5, 6, 7, 8, 9, 10] hs (by kernel_rfl) ?_)
    replace hs := hs.drew
    refine A_take 0 rfl (by kernel_rfl) rfl hs (Y_move rfl ?_)
    refine A_take 1 rfl (by kernel_rfl) rfl hs (Y_nil rfl ?_)
    refine A_take 2 rfl (by kernel_rfl) rfl hs (Y_fieldAddr FO57_0 rfl (m := 0) rfl ?_)
    refine A_take 3 rfl (by kernel_rfl) rfl hs (Y_ld 0 Tryz.isAgg9 rfl rfl rfl ?_)
    refine A_take 4 rfl (by kernel_rfl) rfl hs (Y_move rfl ?_)
    refine A_take 5 rfl (by kernel_rfl) rfl hs (Y_nil rfl ?_)
    refine A_take 6 rfl (by kernel_rfl) rfl hs (Y_fieldAddr FO57_1 rfl (m := 1) rfl ?_)
    refine A_take 7 rfl (by kernel_rfl) rfl hs (Y_ld 0 Tryz.isAgg3 rfl rfl rfl ?_)
    refine A_take 8 rfl (by kernel_rfl) rfl hs (Y_sub (c := ((q : Nat) : Int)) rfl rfl (by omega) (by omega) ?_)
    refine A_take 9 rfl (by kernel_rfl) rfl hs (Y_idxStr (b := s[q]'hlt) q Tryz.underlying9 rfl rfl rfl (str_at (List.getElem?_eq_getElem hlt)) ?_)
    refine A_take 10 rfl (by kernel_rfl) rfl hs (Y_assign rfl ?_)
    refine A_done (by kernel_rfl) (T_kp [2] rfl ?_)
    refine T_ret ?_
    refine RtX_fin (vs := [_]) Tryz.results111 rfl ⟨rfl, trivial⟩ ?_
    try dsimp only [tup]
    exact ⟨_, _, hs, s[q]'hlt, q + 1, charP_p (by first | rfl | exact hb5) hlt h21, by omega, rfl, rfl⟩
 ·
  have hlt5 := isB_lt hb5
  refine O_s (S_call (H1 := [_]) hs rfl Tryz.func49 rfl (by kernel_rfl) (accept_t (q := q) (b := 92) (by omega) hl hb5) fun v6 G' H' _ hR hG5 hs => ?_)
  obtain ⟨rfl, rfl⟩ := hR
  replace hs : St _ _ [_] _ := hs
  refine O_nil (T_kp [0, 5] rfl ?_)
  refine T_condT rfl (T_seq (T_region rfl ?_))
  refine O_m rfl ?_
  refine O_s (S_callX (H1 := [_]) hs rfl Tryz.func110 rfl (by kernel_rfl) (expect_ok (q := (q + 1 : Nat)) (b := 120) (by omega) hl) (fun v G' w' hX hG hs => RtX_panic rfl ⟨_, hs.done, ⟨_, charP_x1 hb5 hX.1, hX.2⟩⟩) fun v7 G' H' _ hR hG7 hs => ?_)
  obtain ⟨h7, rfl⟩ := hR
  replace hs : St _ _ [_] _ := hs
  have hh7 := isB_lt h7
  refine O_nil (T_kp [0] rfl ?_)
  refine T_seq (T_region rfl ?_)
  refine O_m rfl ?_
  refine O_s (S_callX (H1 := [_]) hs rfl Tryz.func126 rfl (by kernel_rfl) (hexp_ok (q := ((q + 1 : Nat) + 1 : Nat)) (by omega) hl) (fun v G' w' hX hG hs => RtX_panic rfl ⟨_, hs.done, ⟨_, charP_x2 hb5 h7 hX.1, hX.2⟩⟩) fun v8 G' H' _ hR hG9 hs => ?_)
  obtain ⟨y9, h9, rfl, rfl⟩ := hR
  replace hs : St _ _ [_] _ := hs
  have hh9 := (hexP_ok h9).2
  refine O_y hs (Y_mulW rfl rfl ?_)
  refine O_m rfl ?_
  refine O_s (S_callX (H1 := [_]) hs rfl Tryz.func126 rfl (by kernel_rfl) (hexp_ok (q := (((q + 1 : Nat) + 1 : Nat) + 1 : Nat)) (by omega) hl) (fun v G' w' hX hG hs => RtX_panic rfl ⟨_, hs.done, ⟨_, charP_x3 hb5 h7 h9 hX.1, hX.2⟩⟩) fun v9 G' H' _ hR hG12 hs => ?_)
  obtain ⟨y12, h12, rfl, rfl⟩ := hR
  replace hs : St _ _ [_] _ := hs
  have hh12 := (hexP_ok h12).2
  refine O_y hs (Y_addW rfl rfl ?_)
  refine O_a rfl ?_
  refine O_nil (T_kp [2] rfl ?_)
  refine T_ret ?_
  refine RtX_fin (vs := [_]) Tryz.results111 rfl ⟨rfl, trivial⟩ ?_
  try dsimp only [tup]
  exact ⟨_, _, hs, 16 * y9 + y12, q + 1 + 1 + 1 + 1, charP_x (by first | rfl | exact hb5) (by first | rfl | exact h7) h9 h12, by have := (hexP_ok h12).2; omega, congrArg (Value.int .u8) (u8_16 y9 y12), rfl⟩

def twF (s : List UInt8) (q : Nat) : List UInt8 := (s.drop q).takeWhile isDig
theorem tw_get : ∀ (l : List UInt8) (n : Nat), n ≤ (l.takeWhile isDig).length → ((∃ x, l[n]? = some x ∧ isDig x = true) ↔ n < (l.takeWhile isDig).length)
  | [], n, h => by simp
  | x :: t, n, h => by
    by_cases hx : isDig x = true
    · rw [List.takeWhile_cons_of_pos hx] at h ⊢
      cases n with
      | zero => exact ⟨fun _ => by simp, fun _ => ⟨x, rfl, hx⟩⟩
      | succ n =>
        have ih := tw_get t n (by simpa using h)
        rw [List.getElem?_cons_succ, ih]; simp
    · rw [List.takeWhile_cons_of_neg hx] at h ⊢
      obtain rfl : n = 0 := by simpa using h
      refine ⟨fun ⟨y, h1, h2⟩ => ?_, fun h => by simp at h⟩
      have : x = y := by simpa using h1
      rw [this] at hx; exact absurd h2 hx
theorem tw_at {s : List UInt8} {q n : Nat} (h : n ≤ (twF s q).length) : (48 ≤ peekI s (q + n) ∧ peekI s (q + n) ≤ 57) ↔ n < (twF s q).length := by
  unfold twF at h ⊢
  rw [← tw_get _ n h, List.getElem?_drop]
  unfold peekI
  cases s[q + n]? with
  | none => simp
  | some x =>
    simp only [Option.some.injEq, exists_eq_left', isDig, Bool.and_eq_true, decide_eq_true_eq]
    omega
theorem digs_tw {s : List UInt8} {q : Nat} (h : ¬ s[q]? = some 48) : digsF (s.drop q) = twF s q := by
  unfold twF
  cases hd : s.drop q with
  | nil => rfl
  | cons x t =>
    have := (at_cons hd).1
    rw [digsF, if_neg (fun e => h (by rw [this, e]))]
theorem digs_zero {s : List UInt8} {q : Nat} (h : s[q]? = some 48) : digsF (s.drop q) = [48] := by
  cases hd : s.drop q with
  | nil => have := (at_nil hd).1; rw [this] at h; cases h
  | cons x t =>
    have := (at_cons hd).1
    rw [this] at h
    rw [digsF, if_pos (Option.some.inj h)]
theorem digs_stop {s : List UInt8} {q n : Nat} (hn : n ≤ (twF s q).length) (h0 : n = 0 ∨ ¬ s[q]? = some 48) (hd : ¬ (48 ≤ peekI s (q + n) ∧ peekI s (q + n) ≤ 57)) : (digsF (s.drop q)).length = n := by
  have h1 : ¬ n < (twF s q).length := fun h => hd ((tw_at hn).2 h)
  have h48 : ¬ s[q]? = some 48 := by
    rcases h0 with rfl | h0
    · intro h; apply hd
      unfold peekI; rw [Nat.add_zero, h]; decide
    · exact h0
  rw [digs_tw h48]; omega
theorem digs_brk {s : List UInt8} {q n : Nat} (h0 : n = 0 ∨ ¬ s[q]? = some 48) (h : s[q]? = some 48) : (digsF (s.drop q)).length = n + 1 := by
  rcases h0 with rfl | h0
  · rw [digs_zero h]; rfl
  · exact absurd h h0
theorem digs_take (l : List UInt8) : l.take (digsF l).length = digsF l := by
  cases l with
  | nil => rfl
  | cons x t =>
    rw [digsF]; split
    · rename_i h; rw [h]; rfl
    · exact (List.prefix_iff_eq_take.1 (List.takeWhile_prefix isDig)).symm
theorem digs_all (l : List UInt8) : ∀ x ∈ digsF l, isDig x = true := by
  cases l with
  | nil => intro x h; cases h
  | cons y t =>
    rw [digsF]; split
    · intro x h; rw [List.mem_singleton] at h; rw [h]; decide
    · intro x h; exact List.all_eq_true.1 (List.all_takeWhile (p := isDig)) x h
theorem num_e0 {s : List UInt8} {q : Nat} (h : (digsF (s.drop q)).length = 0) : numP s q = .error (unexp s q) := if_pos h
theorem num_e2 {s : List UInt8} {q : Nat} (h : 2 < (digsF (s.drop q)).length) : numP s q = .error (2, q) := by unfold numP; rw [if_neg (by omega), if_pos h]
theorem num_e3 {s : List UInt8} {q : Nat} (h1 : ¬ (digsF (s.drop q)).length = 0) (h2 : ¬ 2 < (digsF (s.drop q)).length) (h3 : 16 < valF (digsF (s.drop q))) : numP s q = .error (2, q) := by unfold numP; rw [if_neg h1, if_neg h2, if_pos h3]
theorem num_ok {s : List UInt8} {q : Nat} (h1 : ¬ (digsF (s.drop q)).length = 0) (h2 : ¬ 2 < (digsF (s.drop q)).length) (h3 : ¬ 16 < valF (digsF (s.drop q))) : numP s q = .ok (valF (digsF (s.drop q)), q + (digsF (s.drop q)).length) := by unfold numP; rw [if_neg h1, if_neg h2, if_neg h3]
theorem strnil {l : List UInt8} : (⟨l.toArray⟩ : ByteArray).data.toList = (⟨#[]⟩ : ByteArray).data.toList ↔ l.length = 0 := by simp


theorem dig_val {x : UInt8} (h : isDig x = true) : Lib.digitVal x = some (x.toNat - 48) ∧ x ≠ 45 ∧ x ≠ 43 := by
  unfold isDig at h
  simp only [Bool.and_eq_true, decide_eq_true_eq] at h
  refine ⟨?_, ?_, ?_⟩
  · unfold Lib.digitVal; rw [if_pos h]
  · rintro rfl; exact absurd h.1 (by decide)
  · rintro rfl; exact absurd h.1 (by decide)
theorem dec_from : ∀ (l : List UInt8) (acc : Nat), (∀ x ∈ l, isDig x = true) → Lib.decFrom acc l = some (l.foldl (fun n b => 10 * n + (b.toNat - 48)) acc)
  | [], acc, _ => rfl
  | x :: t, acc, h => by
    rw [Lib.decFrom, (dig_val (h x (by simp))).1]; dsimp only
    rw [dec_from t _ fun y hy => h y (by simp [hy]), List.foldl_cons, Nat.mul_comm acc 10]
theorem atoi_dig {l : List UInt8} (h1 : 0 < l.length) (h : ∀ x ∈ l, isDig x = true) : Lib.atoi l = some ((valF l : Nat) : Int) := by
  cases l with
  | nil => simp at h1
  | cons x t =>
    obtain ⟨_, h2, h3⟩ := dig_val (h x (by simp))
    rw [Lib.atoi, if_neg (by simpa using h2), if_neg (by simpa using h3)]
    have : Lib.decNat (x :: t) = some (valF (x :: t)) := by
      unfold Lib.decNat; rw [if_neg (by simp)]; exact dec_from _ 0 h
    rw [this]; rfl
theorem st_bytes {c : Ctx} {G : Ghost} {H : List Res} {w : World} {e : TypeId} {s : ByteArray} (hs : St c G H w) : St c G H (Lib.bytesWorld w e s) :=
  St.step (w := w) (H1 := []) (H2 := []) (G' := G) (by simpa using hs) rfl rfl rfl (by rw [Lib.bytesWorld_size]; omega) (fun k hk _ => Lib.bytesWorld_at_old w e _ k hk) (Ghost.le.refl G) (fun k o hk => .inl hk) (fun k o hk hge => by rw [hs.ghost_none hge] at hk; cases hk) (by simp) (by simp) (by simp)
theorem atoi_ok {G : Ghost} {l : List UInt8} (h1 : 0 < l.length) (h2 : l.length ≤ 2) (h : ∀ x ∈ l, isDig x = true) : FnOk Tryz.prog 127 [.string ⟨l.toArray⟩] G [] fun r _ H' => H' = [] ∧ r = .tuple #[.int .i64 ((valF l : Nat) : Int), .nilIface] := fun w hw =>
  (Tryz.strconv_Atoi ⟨l.toArray⟩ ((valF l : Nat) : Int) (by rw [bsz]; omega) (by rw [data_list]; exact atoi_dig h1 h) w).mono fun e w' he => by
    obtain ⟨rfl, t, rfl⟩ := he
    exact ⟨_, _, _, rfl, st_bytes hw, rfl, rfl⟩


set_option maxHeartbeats 400000 in
set_option maxRecDepth 10000 in
theorem number_ok {G : Ghost} {p : Nat} {s : List UInt8} {q : Nat} {v : Value} (hq : q ≤ s.length) (hl : s.length ≤ 2000000) :
  FnX Tryz.prog 112 [.pointer (some ⟨p, 0, none⟩)] G [.blk p 57 [.string ⟨s.toArray⟩, .int .i64 (q : Int), v]] (fun r _ H' => ∃ (n q2 : Nat), numP s q = .ok (n, q2) ∧ q2 ≤ s.length ∧ r = .int .i64 (n : Int) ∧ H' = [.blk p 57 [.string ⟨s.toArray⟩, .int .i64 (q2 : Int), v]]) (fun x _ => ∃ e, numP s q = .error e ∧ x = errV e) := by
 have hsz := bsz s
 refine FnX.of_T [(0, _)] Tryz.func112 rfl Tryz.ntmps112 (by simp) rfl fun w0 hs => ?_
 refine T_seq (T_region rfl ?_)
 refine O_a rfl ?_
 refine O_nil (T_kp [0] rfl ?_)
 refine T_seq (T_region rfl ?_)
 refine O_m rfl ?_
 refine O_y hs (Y_nil rfl ?_)
 refine O_y hs (Y_fieldAddr FO57_1 rfl (m := 1) rfl ?_)
 refine O_y hs (Y_ld 0 Tryz.isAgg3 rfl rfl rfl ?_)
 refine O_a rfl ?_
 refine O_nil (T_kp [0, 3] rfl ?_)
 refine T_seq (T_seq (T_region rfl ?_))
 refine O_m rfl ?_
 refine O_s (S_call (H1 := [_]) hs rfl Tryz.func70 rfl (by kernel_rfl) (peek_ok (q := q) (by omega) hl) fun v1 G' H' _ hR hG13 hs => ?_)
 obtain ⟨rfl, rfl⟩ := hR
 replace hs : St _ _ [_] _ := hs
 refine O_a rfl ?_
 refine O_nil (T_kp [0, 3, 4] rfl ?_)
 refine T_block (T_loop (fun m E w => ∃ (n : Nat) (G' : Ghost), n ≤ (twF s q).length ∧ (n = 0 ∨ ¬ s[q]? = some 48) ∧ q + n ≤ s.length ∧ m = s.length - (q + n) ∧ E = ⟨[], [(0, .pointer (some ⟨p, 0, none⟩)), (3, .int .i64 (q : Int)), (4, .int .i64 (peekI s (q + n)))]⟩ ∧ St ⟨w0, G, feet [.blk p 57 [.string ⟨s.toArray⟩, .int .i64 (q : Int), v]]⟩ G' [.blk p 57 [.string ⟨s.toArray⟩, .int .i64 ((q + n : Nat) : Int), v]] w) (L := [(0, _), (3, _), (4, _)]) ⟨rfl, rfl, rfl, trivial⟩ (⟨0, _, Nat.zero_le _, .inl rfl, hq, rfl, rfl, hs⟩) fun m E w hI => ?_)
 obtain ⟨n, G', hn, h0, hqn, rfl, rfl, hs⟩ := hI
 refine T_seq (T_seq (T_region rfl ?_))
 refine O_m rfl ?_
 refine O_y hs (Y_cmpS rfl rfl rfl (fun h15 => ?_) (fun h15 => ?_))
 ·
  dsimp only [cmpP] at h15
  refine O_m rfl ?_
  refine O_yy 16 hs rfl rfl (Y_move rfl ?_)
  refine O_yy 16 hs rfl rfl (Y_cmpS rfl rfl rfl (fun h18 => ?_) (fun h18 => ?_))
  ·
   dsimp only [cmpP] at h18
   have hd := (tw_at hn).1 ⟨by omega, by omega⟩
   have hlp := peek_lt (s := s) (q := q + n) (by omega)
   have hlq : q < s.length := by omega
   refine O_y hs (Y_pickT rfl rfl ?_)
   refine O_nil (T_kp [0, 3, 19] rfl ?_)
   refine T_condT rfl (T_skip ?_)
   refine T_seq (T_block (T_seq (T_region rfl ?_)))
   refine O_m rfl ?_
   refine O_y hs (Y_nil rfl ?_)
   refine O_y hs (Y_fieldAddr FO57_1 rfl (m := 1) rfl ?_)
   refine O_y hs (Y_ld 0 Tryz.isAgg3 rfl rfl rfl ?_)
   refine O_y hs (Y_add (c := ((q + n + 1 : Nat) : Int)) rfl rfl (by omega) (by omega) ?_)
   refine O_y hs (Y_nil rfl ?_)
   refine O_y hs (Y_fieldAddr FO57_1 rfl (m := 1) rfl ?_)
   refine O_n (S_st hs Tryz.sizeOf3 rfl rfl rfl (by simp) (cs' := [_, _, _]) rfl fun _ hs => ?_)
   refine O_nil (T_kp [0, 3] rfl ?_)
   refine T_seq (T_region rfl ?_)
   refine O_m rfl ?_
   refine O_y hs (Y_nil rfl ?_)
   refine O_y hs (Y_fieldAddr FO57_0 rfl (m := 0) rfl ?_)
   refine O_y hs (Y_ld 0 Tryz.isAgg9 rfl rfl rfl ?_)
   refine O_m rfl ?_
   refine O_y hs (Y_idxStr (b := s[q]'hlq) q Tryz.underlying9 rfl rfl rfl (str_at (List.getElem?_eq_getElem hlq)) ?_)
   refine O_y hs (Y_cmpS rfl rfl rfl (fun h35 => ?_) (fun h35 => ?_))
   ·
    dsimp only [cmpP] at h35
    refine O_nil (T_kp [0, 3, 35] rfl ?_)
    refine T_condT rfl (T_exit ?_)
    have hD := digs_brk h0 (by rw [List.getElem?_eq_getElem hlq]; exact congrArg some (UInt8.toNat_inj.1 (by show (s[q]'hlq).toNat = 48; omega)))
    have hDl : (List.take ((q + n + 1 : Nat) - q) (List.drop q s)) = digsF (s.drop q) := by rw [← digs_take (s.drop q), hD]; congr 1; omega
    have hD2 := digs_le (s.drop q)
    rw [List.length_drop] at hD2
    have hsz2 := bsz (List.take ((q + n + 1 : Nat) - q) (List.drop q s))
    have hln : (List.take ((q + n + 1 : Nat) - q) (List.drop q s)).length = (digsF (s.drop q)).length := by rw [hDl]
    refine T_seq (T_drawS [0, 1, 2, 3, 4, 5, 6, 7, 8, 9, 10] hs (by kernel_rfl) ?_)
    replace hs := hs.drew
    refine A_take 0 rfl (by kernel_rfl) rfl hs (Y_move rfl ?_)
    refine A_take 1 rfl (by kernel_rfl) rfl hs (Y_nil rfl ?_)
    refine A_take 2 rfl (by kernel_rfl) rfl hs (Y_fieldAddr FO57_0 rfl (m := 0) rfl ?_)
    refine A_take 3 rfl (by kernel_rfl) rfl hs (Y_ld 0 Tryz.isAgg9 rfl rfl rfl ?_)
    refine A_take 4 rfl (by kernel_rfl) rfl hs (Y_move rfl ?_)
    refine A_take 5 rfl (by kernel_rfl) rfl hs (Y_move rfl ?_)
    refine A_take 6 rfl (by kernel_rfl) rfl hs (Y_nil rfl ?_)
    refine A_take 7 rfl (by kernel_rfl) rfl hs (Y_fieldAddr FO57_1 rfl (m := 1) rfl ?_)
    refine A_take 8 rfl (by kernel_rfl) rfl hs (Y_ld 0 Tryz.isAgg3 rfl rfl rfl ?_)
    refine A_take 9 rfl (by kernel_rfl) rfl hs (Y_sliceStr (s := s) q (q + n + 1 : Nat) Tryz.underlying9 rfl ⟨_, _, rfl, rfl⟩ ⟨_, _, rfl, rfl⟩ (by omega) (by omega) ?_)
    refine A_take 10 rfl (by kernel_rfl) rfl hs (Y_assign rfl ?_)
    refine A_done (by kernel_rfl) (T_kp [0, 3, 5] rfl ?_)
    refine T_seq (T_seq (T_region rfl ?_))
    refine O_m rfl ?_
    refine O_y hs (Y_strEqS rfl rfl (fun h47 => ?_) (fun h47 => ?_))
    ·
     refine O_nil (T_kp [0, 3, 5, 47] rfl ?_)
     refine T_condT rfl (T_region rfl ?_)
     refine O_m rfl ?_
     refine O_s (S_callX (H1 := [_]) hs rfl Tryz.func34 rfl (by kernel_rfl) (unexp_ok (q := (q + n + 1 : Nat)) (by omega) hl) (fun v G' w' hX hG hs => RtX_panic rfl ⟨_, hs.done, ⟨_, num_e0 (by have := strnil.1 h47; omega), by rw [hX]; congr 1; have := strnil.1 h47; congr 1; omega⟩⟩) fun v2 G' H' _ hR hG49 hs => ?_)
     exact hR.elim
    ·
     refine O_nil (T_kp [0, 3, 5, 47] rfl ?_)
     refine T_condF rfl (T_skip ?_)
     have h9 := fun e => h47 (strnil.2 e)
     have h9b : ¬ (digsF (s.drop q)).length = 0 := by rw [← hln]; exact h9
     refine T_seq (T_seq (T_region rfl ?_))
     refine O_m rfl ?_
     refine O_y hs (Y_lenS Tryz.underlying9 rfl ?_)
     refine O_y hs (Y_cmpS rfl rfl rfl (fun h52 => ?_) (fun h52 => ?_))
     ·
      dsimp only [cmpP] at h52
      refine O_nil (T_kp [3, 5, 52] rfl ?_)
      refine T_condT rfl (T_region rfl ?_)
      refine O_m rfl ?_
      refine O_y hs (Y_build Tryz.zeroValue53 rfl PL53 rfl (cs := [_, _]) rfl ?_)
      refine O_y hs (Y_makeInterface Tryz.underlying53 (fun _ h => by cases h) rfl ?_)
      refine O_n (S_panic rfl (fun _ => rfl) (RtX_panic rfl ⟨_, hs.done, ?_⟩))
      exact ⟨_, num_e2 (by omega), rfl⟩
     ·
      dsimp only [cmpP] at h52
      refine O_nil (T_kp [3, 5, 52] rfl ?_)
      refine T_condF rfl (T_skip ?_)
      refine T_seq (T_region rfl ?_)
      refine O_m rfl ?_
      refine O_s (S_call (H1 := []) hs rfl Tryz.func127 rfl (by kernel_rfl) (atoi_ok (l := (List.take ((q + n + 1 : Nat) - q) (List.drop q s))) (by have h9 := fun e => h47 (strnil.2 e); omega) (by omega) (by rw [hDl]; exact digs_all _)) fun v3 G' H' _ hR hG58 hs => ?_)
      obtain ⟨rfl, rfl⟩ := hR
      replace hs : St _ _ [_] _ := hs
      refine O_m rfl ?_
      refine O_y hs (Y_extract rfl rfl ?_)
      refine O_y hs (Y_extract rfl rfl ?_)
      refine O_a rfl ?_
      refine O_a rfl ?_
      refine O_nil (T_kp [3, 6] rfl ?_)
      refine T_seq (T_seq (T_region rfl ?_))
      refine O_m rfl ?_
      refine O_y hs (Y_cmpS rfl rfl rfl (fun h62 => ?_) (fun h62 => ?_))
      ·
       dsimp only [cmpP] at h62
       refine O_nil (T_kp [3, 6, 62] rfl ?_)
       refine T_condT rfl (T_region rfl ?_)
       refine O_m rfl ?_
       refine O_y hs (Y_build Tryz.zeroValue53 rfl PL53 rfl (cs := [_, _]) rfl ?_)
       refine O_y hs (Y_makeInterface Tryz.underlying53 (fun _ h => by cases h) rfl ?_)
       refine O_n (S_panic rfl (fun _ => rfl) (RtX_panic rfl ⟨_, hs.done, ?_⟩))
       exact ⟨_, num_e3 (by omega) (by omega) (by rw [hDl] at h62; omega), rfl⟩
      ·
       dsimp only [cmpP] at h62
       refine O_nil (T_kp [3, 6, 62] rfl ?_)
       refine T_condF rfl (T_skip ?_)
       refine T_seq (T_region rfl ?_)
       refine O_m rfl ?_
       refine O_a rfl ?_
       refine O_nil (T_kp [2] rfl ?_)
       refine T_ret ?_
       refine RtX_fin (vs := [_]) Tryz.results112 rfl ⟨rfl, trivial⟩ ?_
       try dsimp only [tup]
       exact ⟨_, _, hs, _, _, num_ok (by omega) (by omega) (by rw [hDl] at h62; omega), by omega, by rw [hDl]; rfl, by rw [hD]; try rfl⟩
   ·
    dsimp only [cmpP] at h35
    refine O_nil (T_kp [0, 3, 35] rfl ?_)
    refine T_condF rfl (T_skip ?_)
    refine T_region rfl ?_
    refine O_m rfl ?_
    refine O_s (S_call (H1 := [_]) hs rfl Tryz.func70 rfl (by kernel_rfl) (peek_ok (q := (q + n + 1 : Nat)) (by omega) hl) fun v4 G' H' _ hR hG21 hs => ?_)
    obtain ⟨rfl, rfl⟩ := hR
    replace hs : St _ _ [_] _ := hs
    refine O_a rfl ?_
    refine O_nil ⟨_, ?_, [(0, _), (3, _), (4, _)], ⟨rfl, rfl, rfl, trivial⟩, ⟨n + 1, _, hd, .inr (fun e => h35 (by rw [List.getElem?_eq_getElem hlq] at e; rw [Option.some.inj e]; rfl)), by omega, rfl, rfl, hs⟩⟩
    omega
  ·
   dsimp only [cmpP] at h18
   refine O_y hs (Y_pickT rfl rfl ?_)
   refine O_nil (T_kp [0, 3, 19] rfl ?_)
   refine T_condF rfl (T_exit ?_)
   have hD := digs_stop hn h0 (by omega)
   have hDl : (List.take ((q + n : Nat) - q) (List.drop q s)) = digsF (s.drop q) := by rw [← digs_take (s.drop q), hD]; congr 1; omega
   have hD2 := digs_le (s.drop q)
   rw [List.length_drop] at hD2
   have hsz2 := bsz (List.take ((q + n : Nat) - q) (List.drop q s))
   have hln : (List.take ((q + n : Nat) - q) (List.drop q s)).length = (digsF (s.drop q)).length := by rw [hDl]
   refine T_seq (T_drawS [0, 1, 2, 3, 4, 5, 6, 7, 8, 9, 10] hs (by kernel_rfl) ?_)
   replace hs := hs.drew
   refine A_take 0 rfl (by kernel_rfl) rfl hs (Y_move rfl ?_)
   refine A_take 1 rfl (by kernel_rfl) rfl hs (Y_nil rfl ?_)
   refine A_take 2 rfl (by kernel_rfl) rfl hs (Y_fieldAddr FO57_0 rfl (m := 0) rfl ?_)
   refine A_take 3 rfl (by kernel_rfl) rfl hs (Y_ld 0 Tryz.isAgg9 rfl rfl rfl ?_)
   refine A_take 4 rfl (by kernel_rfl) rfl hs (Y_move rfl ?_)
   refine A_take 5 rfl (by kernel_rfl) rfl hs (Y_move rfl ?_)
   refine A_take 6 rfl (by kernel_rfl) rfl hs (Y_nil rfl ?_)
   refine A_take 7 rfl (by kernel_rfl) rfl hs (Y_fieldAddr FO57_1 rfl (m := 1) rfl ?_)
   refine A_take 8 rfl (by kernel_rfl) rfl hs (Y_ld 0 Tryz.isAgg3 rfl rfl rfl ?_)
   refine A_take 9 rfl (by kernel_rfl) rfl hs (Y_sliceStr (s := s) q (q + n : Nat) Tryz.underlying9 rfl ⟨_, _, rfl, rfl⟩ ⟨_, _, rfl, rfl⟩ (by omega) (by omega) ?_)
   refine A_take 10 rfl (by kernel_rfl) rfl hs (Y_assign rfl ?_)
   refine A_done (by kernel_rfl) (T_kp [0, 3, 5] rfl ?_)
   refine T_seq (T_seq (T_region rfl ?_))
   refine O_m rfl ?_
   refine O_y hs (Y_strEqS rfl rfl (fun h47 => ?_) (fun h47 => ?_))
   ·
    refine O_nil (T_kp [0, 3, 5, 47] rfl ?_)
    refine T_condT rfl (T_region rfl ?_)
    refine O_m rfl ?_
    refine O_s (S_callX (H1 := [_]) hs rfl Tryz.func34 rfl (by kernel_rfl) (unexp_ok (q := (q + n : Nat)) (by omega) hl) (fun v G' w' hX hG hs => RtX_panic rfl ⟨_, hs.done, ⟨_, num_e0 (by have := strnil.1 h47; omega), by rw [hX]; congr 1; have := strnil.1 h47; congr 1; omega⟩⟩) fun v5 G' H' _ hR hG49 hs => ?_)
    exact hR.elim
   ·
    refine O_nil (T_kp [0, 3, 5, 47] rfl ?_)
    refine T_condF rfl (T_skip ?_)
    have h9 := fun e => h47 (strnil.2 e)
    have h9b : ¬ (digsF (s.drop q)).length = 0 := by rw [← hln]; exact h9
    refine T_seq (T_seq (T_region rfl ?_))
    refine O_m rfl ?_
    refine O_y hs (Y_lenS Tryz.underlying9 rfl ?_)
    refine O_y hs (Y_cmpS rfl rfl rfl (fun h52 => ?_) (fun h52 => ?_))
    ·
     dsimp only [cmpP] at h52
     refine O_nil (T_kp [3, 5, 52] rfl ?_)
     refine T_condT rfl (T_region rfl ?_)
     refine O_m rfl ?_
     refine O_y hs (Y_build Tryz.zeroValue53 rfl PL53 rfl (cs := [_, _]) rfl ?_)
     refine O_y hs (Y_makeInterface Tryz.underlying53 (fun _ h => by cases h) rfl ?_)
     refine O_n (S_panic rfl (fun _ => rfl) (RtX_panic rfl ⟨_, hs.done, ?_⟩))
     exact ⟨_, num_e2 (by omega), rfl⟩
    ·
     dsimp only [cmpP] at h52
     refine O_nil (T_kp [3, 5, 52] rfl ?_)
     refine T_condF rfl (T_skip ?_)
     refine T_seq (T_region rfl ?_)
     refine O_m rfl ?_
     refine O_s (S_call (H1 := []) hs rfl Tryz.func127 rfl (by kernel_rfl) (atoi_ok (l := (List.take ((q + n : Nat) - q) (List.drop q s))) (by have h9 := fun e => h47 (strnil.2 e); omega) (by omega) (by rw [hDl]; exact digs_all _)) fun v6 G' H' _ hR hG58 hs => ?_)
     obtain ⟨rfl, rfl⟩ := hR
     replace hs : St _ _ [_] _ := hs
     refine O_m rfl ?_
     refine O_y hs (Y_extract rfl rfl ?_)
     refine O_y hs (Y_extract rfl rfl ?_)
     refine O_a rfl ?_
     refine O_a rfl ?_
     refine O_nil (T_kp [3, 6] rfl ?_)
     refine T_seq (T_seq (T_region rfl ?_))
     refine O_m rfl ?_
     refine O_y hs (Y_cmpS rfl rfl rfl (fun h62 => ?_) (fun h62 => ?_))
     ·
      dsimp only [cmpP] at h62
      refine O_nil (T_kp [3, 6, 62] rfl ?_)
      refine T_condT rfl (T_region rfl ?_)
      refine O_m rfl ?_
      refine O_y hs (Y_build Tryz.zeroValue53 rfl PL53 rfl (cs := [_, _]) rfl ?_)
      refine O_y hs (Y_makeInterface Tryz.underlying53 (fun _ h => by cases h) rfl ?_)
      refine O_n (S_panic rfl (fun _ => rfl) (RtX_panic rfl ⟨_, hs.done, ?_⟩))
      exact ⟨_, num_e3 (by omega) (by omega) (by rw [hDl] at h62; omega), rfl⟩
     ·
      dsimp only [cmpP] at h62
      refine O_nil (T_kp [3, 6, 62] rfl ?_)
      refine T_condF rfl (T_skip ?_)
      refine T_seq (T_region rfl ?_)
      refine O_m rfl ?_
      refine O_a rfl ?_
      refine O_nil (T_kp [2] rfl ?_)
      refine T_ret ?_
      refine RtX_fin (vs := [_]) Tryz.results112 rfl ⟨rfl, trivial⟩ ?_
      try dsimp only [tup]
      exact ⟨_, _, hs, _, _, num_ok (by omega) (by omega) (by rw [hDl] at h62; omega), by omega, by rw [hDl]; rfl, by rw [hD]; try rfl⟩
 ·
  dsimp only [cmpP] at h15
  refine O_m rfl ?_
  refine O_no 16 rfl rfl ?_
  refine O_no 16 rfl rfl ?_
  refine O_y hs (Y_pickF rfl rfl ?_)
  refine O_nil (T_kp [0, 3, 19] rfl ?_)
  refine T_condF rfl (T_exit ?_)
  have hD := digs_stop hn h0 (by omega)
  have hDl : (List.take ((q + n : Nat) - q) (List.drop q s)) = digsF (s.drop q) := by rw [← digs_take (s.drop q), hD]; congr 1; omega
  have hD2 := digs_le (s.drop q)
  rw [List.length_drop] at hD2
  have hsz2 := bsz (List.take ((q + n : Nat) - q) (List.drop q s))
  have hln : (List.take ((q + n : Nat) - q) (List.drop q s)).length = (digsF (s.drop q)).length := by rw [hDl]
  refine T_seq (T_drawS [0, 1, 2, 3, 4, 5, 6, 7, 8, 9, 10] hs (by kernel_rfl) ?_)
  replace hs := hs.drew
  refine A_take 0 rfl (by kernel_rfl) rfl hs (Y_move rfl ?_)
  refine A_take 1 rfl (by kernel_rfl) rfl hs (Y_nil rfl ?_)
  refine A_take 2 rfl (by kernel_rfl) rfl hs (Y_fieldAddr FO57_0 rfl (m := 0) rfl ?_)
  refine A_take 3 rfl (by kernel_rfl) rfl hs (Y_ld 0 Tryz.isAgg9 rfl rfl rfl ?_)
  refine A_take 4 rfl (by kernel_rfl) rfl hs (Y_move rfl ?_)
  refine A_take 5 rfl (by kernel_rfl) rfl hs (Y_move rfl ?_)
  refine A_take 6 rfl (by kernel_rfl) rfl hs (Y_nil rfl ?_)
  refine A_take 7 rfl (by kernel_rfl) rfl hs (Y_fieldAddr FO57_1 rfl (m := 1) rfl ?_)
  refine A_take 8 rfl (by kernel_rfl) rfl hs (Y_ld 0 Tryz.isAgg3 rfl rfl rfl ?_)
  refine A_take 9 rfl (by kernel_rfl) rfl hs (Y_sliceStr (s := s) q (q + n : Nat) Tryz.underlying9 rfl ⟨_, _, rfl, rfl⟩ ⟨_, _, rfl, rfl⟩ (by omega) (by omega) ?_)
  refine A_take 10 rfl (by kernel_rfl) rfl hs (Y_assign rfl ?_)
  refine A_done (by kernel_rfl) (T_kp [0, 3, 5] rfl ?_)
  refine T_seq (T_seq (T_region rfl ?_))
  refine O_m rfl ?_
  refine O_y hs (Y_strEqS rfl rfl (fun h47 => ?_) (fun h47 => ?_))
  ·
   refine O_nil (T_kp [0, 3, 5, 47] rfl ?_)
   refine T_condT rfl (T_region rfl ?_)
   refine O_m rfl ?_
   refine O_s (S_callX (H1 := [_]) hs rfl Tryz.func34 rfl (by kernel_rfl) (unexp_ok (q := (q + n : Nat)) (by omega) hl) (fun v G' w' hX hG hs => RtX_panic rfl ⟨_, hs.done, ⟨_, num_e0 (by have := strnil.1 h47; omega), by rw [hX]; congr 1; have := strnil.1 h47; congr 1; omega⟩⟩) fun v7 G' H' _ hR hG49 hs => ?_)
   exact hR.elim
  ·
   refine O_nil (T_kp [0, 3, 5, 47] rfl ?_)
   refine T_condF rfl (T_skip ?_)
   have h9 := fun e => h47 (strnil.2 e)
   have h9b : ¬ (digsF (s.drop q)).length = 0 := by rw [← hln]; exact h9
   refine T_seq (T_seq (T_region rfl ?_))
   refine O_m rfl ?_
   refine O_y hs (Y_lenS Tryz.underlying9 rfl ?_)
   refine O_y hs (Y_cmpS rfl rfl rfl (fun h52 => ?_) (fun h52 => ?_))
   ·
    dsimp only [cmpP] at h52
    refine O_nil (T_kp [3, 5, 52] rfl ?_)
    refine T_condT rfl (T_region rfl ?_)
    refine O_m rfl ?_
    refine O_y hs (Y_build Tryz.zeroValue53 rfl PL53 rfl (cs := [_, _]) rfl ?_)
    refine O_y hs (Y_makeInterface Tryz.underlying53 (fun _ h => by cases h) rfl ?_)
    refine O_n (S_panic rfl (fun _ => rfl) (RtX_panic rfl ⟨_, hs.done, ?_⟩))
    exact ⟨_, num_e2 (by omega), rfl⟩
   ·
    dsimp only [cmpP] at h52
    refine O_nil (T_kp [3, 5, 52] rfl ?_)
    refine T_condF rfl (T_skip ?_)
    refine T_seq (T_region rfl ?_)
    refine O_m rfl ?_
    refine O_s (S_call (H1 := []) hs rfl Tryz.func127 rfl (by kernel_rfl) (atoi_ok (l := (List.take ((q + n : Nat) - q) (List.drop q s))) (by have h9 := fun e => h47 (strnil.2 e); omega) (by omega) (by rw [hDl]; exact digs_all _)) fun v8 G' H' _ hR hG58 hs => ?_)
    obtain ⟨rfl, rfl⟩ := hR
    replace hs : St _ _ [_] _ := hs
    refine O_m rfl ?_
    refine O_y hs (Y_extract rfl rfl ?_)
    refine O_y hs (Y_extract rfl rfl ?_)
    refine O_a rfl ?_
    refine O_a rfl ?_
    refine O_nil (T_kp [3, 6] rfl ?_)
    refine T_seq (T_seq (T_region rfl ?_))
    refine O_m rfl ?_
    refine O_y hs (Y_cmpS rfl rfl rfl (fun h62 => ?_) (fun h62 => ?_))
    ·
     dsimp only [cmpP] at h62
     refine O_nil (T_kp [3, 6, 62] rfl ?_)
     refine T_condT rfl (T_region rfl ?_)
     refine O_m rfl ?_
     refine O_y hs (Y_build Tryz.zeroValue53 rfl PL53 rfl (cs := [_, _]) rfl ?_)
     refine O_y hs (Y_makeInterface Tryz.underlying53 (fun _ h => by cases h) rfl ?_)
     refine O_n (S_panic rfl (fun _ => rfl) (RtX_panic rfl ⟨_, hs.done, ?_⟩))
     exact ⟨_, num_e3 (by omega) (by omega) (by rw [hDl] at h62; omega), rfl⟩
    ·
     dsimp only [cmpP] at h62
     refine O_nil (T_kp [3, 6, 62] rfl ?_)
     refine T_condF rfl (T_skip ?_)
     refine T_seq (T_region rfl ?_)
     refine O_m rfl ?_
     refine O_a rfl ?_
     refine O_nil (T_kp [2] rfl ?_)
     refine T_ret ?_
     refine RtX_fin (vs := [_]) Tryz.results112 rfl ⟨rfl, trivial⟩ ?_
     try dsimp only [tup]
     exact ⟨_, _, hs, _, _, num_ok (by omega) (by omega) (by rw [hDl] at h62; omega), by omega, by rw [hDl]; rfl, by rw [hD]; try rfl⟩

theorem bnd_1 {s : List UInt8} {q : Nat} {e : Er} (h : numP s q = .error e) : boundsP s q = .error e := by unfold boundsP; rw [h]
theorem expP_t {s : List UInt8} {q : Nat} {b : UInt8} (h : isB s q b = true) : expP s q b = .ok (q + 1) := if_pos h
theorem expP_f {s : List UInt8} {q : Nat} {b : UInt8} (h : isB s q b = false) : expP s q b = .error (unexp s q) := if_neg (by rw [h]; simp)
theorem bnd_2 {s : List UInt8} {q n q1 : Nat} (h : numP s q = .ok (n, q1)) (h2 : isB s q1 44 = false) : boundsP s q = .error (unexp s q1) := by unfold boundsP; rw [h]; dsimp only; rw [expP_f h2]
theorem bnd_3 {s : List UInt8} {q n q1 : Nat} (h : numP s q = .ok (n, q1)) (h2 : isB s q1 44 = true) (h3 : isB s (q1 + 1) 125 = true) : boundsP s q = .ok ((n : Int), -1, q1 + 1 + 1) := by unfold boundsP; rw [h]; dsimp only; rw [expP_t h2]; dsimp only; rw [if_pos h3]
theorem bnd_4 {s : List UInt8} {q n q1 : Nat} {e : Er} (h : numP s q = .ok (n, q1)) (h2 : isB s q1 44 = true) (h3 : isB s (q1 + 1) 125 = false) (h4 : numP s (q1 + 1) = .error e) : boundsP s q = .error e := by unfold boundsP; rw [h]; dsimp only; rw [expP_t h2]; dsimp only; rw [if_neg (by rw [h3]; simp), h4]
theorem bnd_5 {s : List UInt8} {q n q1 n2 q2 : Nat} (h : numP s q = .ok (n, q1)) (h2 : isB s q1 44 = true) (h3 : isB s (q1 + 1) 125 = false) (h4 : numP s (q1 + 1) = .ok (n2, q2)) (h5 : n2 < n) : boundsP s q = .error (20, q1 + 1) := by unfold boundsP; rw [h]; dsimp only; rw [expP_t h2]; dsimp only; rw [if_neg (by rw [h3]; simp), h4]; dsimp only; rw [if_pos h5]
theorem bnd_6 {s : List UInt8} {q n q1 n2 q2 : Nat} (h : numP s q = .ok (n, q1)) (h2 : isB s q1 44 = true) (h3 : isB s (q1 + 1) 125 = false) (h4 : numP s (q1 + 1) = .ok (n2, q2)) (h5 : ¬ n2 < n) (h6 : isB s q2 125 = false) : boundsP s q = .error (unexp s q2) := by unfold boundsP; rw [h]; dsimp only; rw [expP_t h2]; dsimp only; rw [if_neg (by rw [h3]; simp), h4]; dsimp only; rw [if_neg h5, expP_f h6]
theorem bnd_7 {s : List UInt8} {q n q1 n2 q2 : Nat} (h : numP s q = .ok (n, q1)) (h2 : isB s q1 44 = true) (h3 : isB s (q1 + 1) 125 = false) (h4 : numP s (q1 + 1) = .ok (n2, q2)) (h5 : ¬ n2 < n) (h6 : isB s q2 125 = true) : boundsP s q = .ok ((n : Int), (n2 : Int), q2 + 1) := by unfold boundsP; rw [h]; dsimp only; rw [expP_t h2]; dsimp only; rw [if_neg (by rw [h3]; simp), h4]; dsimp only; rw [if_neg h5, expP_t h6]
theorem isB_of {s : List UInt8} {q : Nat} {b : UInt8} {k : Int} (hk : (b.toNat : Int) = k) (h : peekI s q = k) : isB s q b = true := by rw [isB_peek, hk, h]; simp
theorem isB_off {s : List UInt8} {q : Nat} {b : UInt8} {k : Int} (hk : (b.toNat : Int) = k) (h : ¬ peekI s q = k) : isB s q b = false := by rw [isB_peek, hk]; simpa using h


set_option maxHeartbeats 400000 in
set_option maxRecDepth 10000 in
theorem bounds_ok {G : Ghost} {p : Nat} {s : List UInt8} {q : Nat} {v : Value} (hq : q ≤ s.length) (hl : s.length ≤ 2000000) :
  FnX Tryz.prog 100 [.pointer (some ⟨p, 0, none⟩)] G [.blk p 57 [.string ⟨s.toArray⟩, .int .i64 (q : Int), v]] (fun r _ H' => ∃ (a b : Int) (q2 : Nat), boundsP s q = .ok (a, b, q2) ∧ q2 ≤ s.length ∧ r = .tuple #[.int .i64 a, .int .i64 b] ∧ H' = [.blk p 57 [.string ⟨s.toArray⟩, .int .i64 (q2 : Int), v]]) (fun x _ => ∃ e, boundsP s q = .error e ∧ x = errV e) := by
 have hsz := bsz s
 refine FnX.of_T [(0, _)] Tryz.func100 rfl Tryz.ntmps100 (by simp) rfl fun w0 hs => ?_
 refine T_seq (T_region rfl ?_)
 refine O_a rfl ?_
 refine O_a rfl ?_
 refine O_nil (T_kp [0] rfl ?_)
 refine T_seq (T_region rfl ?_)
 refine O_m rfl ?_
 refine O_s (S_callX (H1 := [_]) hs rfl Tryz.func112 rfl (by kernel_rfl) (number_ok (q := q) (by omega) hl) (fun v G' w' hX hG hs => RtX_panic rfl ⟨_, hs.done, let ⟨e, h1, h2⟩ := hX; ⟨e, bnd_1 h1, h2⟩⟩) fun v1 G' H' _ hR hG6 hs => ?_)
 obtain ⟨n6, q6, hn6, hq6, rfl, rfl⟩ := hR
 replace hs : St _ _ [_] _ := hs
 refine O_a rfl ?_
 refine O_a rfl ?_
 refine O_nil (T_kp [0, 2, 3] rfl ?_)
 refine T_seq (T_region rfl ?_)
 refine O_m rfl ?_
 refine O_s (S_callX (H1 := [_]) hs rfl Tryz.func110 rfl (by kernel_rfl) (expect_ok (q := q6) (b := 44) (by omega) hl) (fun v G' w' hX hG hs => RtX_panic rfl ⟨_, hs.done, ⟨_, bnd_2 hn6 hX.1, hX.2⟩⟩) fun v2 G' H' _ hR hG8 hs => ?_)
 obtain ⟨he8, rfl⟩ := hR
 replace hs : St _ _ [_] _ := hs
 have hx8 := isB_lt he8
 refine O_nil (T_kp [0, 2, 3] rfl ?_)
 refine T_seq (T_seq (T_region rfl ?_))
 refine O_m rfl ?_
 refine O_s (S_call (H1 := [_]) hs rfl Tryz.func70 rfl (by kernel_rfl) (peek_ok (q := (q6 + 1 : Nat)) (by omega) hl) fun v3 G' H' _ hR hG10 hs => ?_)
 obtain ⟨rfl, rfl⟩ := hR
 replace hs : St _ _ [_] _ := hs
 refine O_y hs (Y_cmpS rfl rfl rfl (fun h11 => ?_) (fun h11 => ?_))
 ·
  dsimp only [cmpP] at h11
  refine O_nil (T_kp [0, 2, 3, 11] rfl ?_)
  refine T_condT rfl (T_seq (T_region rfl ?_))
  refine O_m rfl ?_
  refine O_y hs (Y_nil rfl ?_)
  refine O_y hs (Y_fieldAddr FO57_1 rfl (m := 1) rfl ?_)
  refine O_y hs (Y_ld 0 Tryz.isAgg3 rfl rfl rfl ?_)
  refine O_a rfl ?_
  refine O_nil (T_kp [0, 2, 4] rfl ?_)
  refine T_seq (T_region rfl ?_)
  refine O_m rfl ?_
  refine O_s (S_callX (H1 := [_]) hs rfl Tryz.func112 rfl (by kernel_rfl) (number_ok (q := (q6 + 1 : Nat)) (by omega) hl) (fun v G' w' hX hG hs => RtX_panic rfl ⟨_, hs.done, let ⟨e, h1, h2⟩ := hX; ⟨e, bnd_4 hn6 he8 (isB_off rfl h11) h1, h2⟩⟩) fun v4 G' H' _ hR hG17 hs => ?_)
  obtain ⟨n17, q17, hn17, hq17, rfl, rfl⟩ := hR
  replace hs : St _ _ [_] _ := hs
  refine O_a rfl ?_
  refine O_nil (T_kp [0, 2, 3, 4] rfl ?_)
  refine T_seq (T_region rfl ?_)
  refine O_m rfl ?_
  refine O_m rfl ?_
  refine O_y hs (Y_cmpS rfl rfl rfl (fun h20 => ?_) (fun h20 => ?_))
  ·
   dsimp only [cmpP] at h20
   refine O_nil (T_kp [0, 2, 3, 4, 20] rfl ?_)
   refine T_condT rfl (T_region rfl ?_)
   refine O_m rfl ?_
   refine O_y hs (Y_build Tryz.zeroValue53 rfl PL53 rfl (cs := [_, _]) rfl ?_)
   refine O_y hs (Y_makeInterface Tryz.underlying53 (fun _ h => by cases h) rfl ?_)
   refine O_n (S_panic rfl (fun _ => rfl) (RtX_panic rfl ⟨_, hs.done, ?_⟩))
   exact ⟨_, bnd_5 hn6 he8 (isB_off rfl h11) hn17 (by omega), rfl⟩
  ·
   dsimp only [cmpP] at h20
   refine O_nil (T_kp [0, 2, 3, 4, 20] rfl ?_)
   refine T_condF rfl (T_skip ?_)
   refine T_seq (T_region rfl ?_)
   refine O_m rfl ?_
   refine O_s (S_callX (H1 := [_]) hs rfl Tryz.func110 rfl (by kernel_rfl) (expect_ok (q := q17) (b := 125) (by omega) hl) (fun v G' w' hX hG hs => RtX_panic rfl ⟨_, hs.done, ⟨_, bnd_6 hn6 he8 (isB_off rfl h11) hn17 (by omega) hX.1, hX.2⟩⟩) fun v5 G' H' _ hR hG25 hs => ?_)
   obtain ⟨he25, rfl⟩ := hR
   replace hs : St _ _ [_] _ := hs
   have hx25 := isB_lt he25
   refine O_nil (T_kp [2, 3] rfl ?_)
   refine T_seq (T_region rfl ?_)
   refine O_m rfl ?_
   refine O_m rfl ?_
   refine O_a rfl ?_
   refine O_a rfl ?_
   refine O_nil (T_kp [2, 3] rfl ?_)
   refine T_ret ?_
   refine RtX_fin (vs := [_, _]) Tryz.results100 rfl ⟨rfl, rfl, trivial⟩ ?_
   try dsimp only [tup]
   exact ⟨_, _, hs, _, _, _, bnd_7 hn6 he8 (isB_off rfl h11) hn17 (by omega) he25, by omega, rfl, rfl⟩
 ·
  dsimp only [cmpP] at h11
  refine O_nil (T_kp [0, 2, 3, 11] rfl ?_)
  refine T_condF rfl (T_skip ?_)
  refine T_seq (T_region rfl ?_)
  refine O_m rfl ?_
  refine O_s (S_callX (H1 := [_]) hs rfl Tryz.func110 rfl (by kernel_rfl) (expect_ok (q := (q6 + 1 : Nat)) (b := 125) (by omega) hl) (fun v G' w' hX hG hs => RtX_panic rfl ⟨_, hs.done, ⟨_, absurd (isB_of (s := s) (q := q6 + 1) (b := 125) (k := 125) rfl (by omega)) (by rw [hX.1]; simp), hX.2⟩⟩) fun v6 G' H' _ hR hG25 hs => ?_)
  obtain ⟨he25, rfl⟩ := hR
  replace hs : St _ _ [_] _ := hs
  have hx25 := isB_lt he25
  refine O_nil (T_kp [2, 3] rfl ?_)
  refine T_seq (T_region rfl ?_)
  refine O_m rfl ?_
  refine O_m rfl ?_
  refine O_a rfl ?_
  refine O_a rfl ?_
  refine O_nil (T_kp [2, 3] rfl ?_)
  refine T_ret ?_
  refine RtX_fin (vs := [_, _]) Tryz.results100 rfl ⟨rfl, rfl, trivial⟩ ?_
  try dsimp only [tup]
  exact ⟨_, _, hs, _, _, _, bnd_3 hn6 he8 he25, by omega, rfl, rfl⟩

def notR : Except Er (List Nat × Nat) → Except Er (List Nat × Nat)
  | .error e => .error e
  | .ok (c, q) => .ok (notF c, q)
theorem classP_t {s : List UInt8} {f q : Nat} {r0 : Except Er (List Nat × Nat)} (h : isB s q 94 = true) (hr : classP s f q = some r0) : ∃ rl, classL s f noC (q + 1) = some rl ∧ r0 = notR rl := by
  unfold classP at hr; rw [if_pos h] at hr
  cases h1 : classL s f noC (q + 1) with
  | none => rw [h1] at hr; cases hr
  | some rl =>
    rw [h1] at hr
    refine ⟨rl, rfl, ?_⟩
    cases rl with
    | error e => exact (Option.some.inj hr).symm
    | ok z => exact (Option.some.inj hr).symm
theorem classP_f {s : List UInt8} {f q : Nat} {r0 : Except Er (List Nat × Nat)} (h : isB s q 94 = false) (hr : classP s f q = some r0) : ∃ rl, classL s f noC q = some rl ∧ r0 = rl := by
  unfold classP at hr; rw [if_neg (by rw [h]; simp)] at hr
  exact ⟨r0, hr, rfl⟩
theorem cl_pos {s : List UInt8} {f : Nat} {c : List Nat} {j : Nat} {rl : Except Er (List Nat × Nat)} (h : classL s f c j = some rl) : ∃ k, f = k + 1 := by
  cases f with
  | zero => cases h
  | succ k => exact ⟨k, rfl⟩
theorem cl_end {s : List UInt8} {f : Nat} {c : List Nat} {j : Nat} {rl : Except Er (List Nat × Nat)} (h : classL s (f + 1) c j = some rl) (h1 : isB s j 93 = true) : rl = .ok (c, j + 1) := by
  rw [classL, if_pos h1] at h; exact (Option.some.inj h).symm
theorem cl_err {s : List UInt8} {f : Nat} {c : List Nat} {j : Nat} {rl : Except Er (List Nat × Nat)} {e : Er} (h : classL s (f + 1) c j = some rl) (h1 : isB s j 93 = false) (h2 : charP s j = .error e) : rl = .error e := by
  rw [classL, if_neg (by rw [h1]; simp), h2] at h; exact (Option.some.inj h).symm
theorem cl_one {s : List UInt8} {f : Nat} {c : List Nat} {j j2 : Nat} {lo : UInt8} {rl : Except Er (List Nat × Nat)} (h : classL s (f + 1) c j = some rl) (h1 : isB s j 93 = false) (h2 : charP s j = .ok (lo, j2)) (h3 : isB s j2 45 = false) : classL s f (unionF c (rangeF lo lo)) j2 = some rl := by
  rw [classL, if_neg (by rw [h1]; simp), h2] at h; dsimp only at h; rw [if_neg (by rw [h3]; simp)] at h; exact h
theorem cl_err2 {s : List UInt8} {f : Nat} {c : List Nat} {j j2 : Nat} {lo : UInt8} {rl : Except Er (List Nat × Nat)} {e : Er} (h : classL s (f + 1) c j = some rl) (h1 : isB s j 93 = false) (h2 : charP s j = .ok (lo, j2)) (h3 : isB s j2 45 = true) (h4 : charP s (j2 + 1) = .error e) : rl = .error e := by
  rw [classL, if_neg (by rw [h1]; simp), h2] at h; dsimp only at h; rw [if_pos h3, h4] at h; exact (Option.some.inj h).symm
theorem cl_bad {s : List UInt8} {f : Nat} {c : List Nat} {j j2 j3 : Nat} {lo hi : UInt8} {rl : Except Er (List Nat × Nat)} (h : classL s (f + 1) c j = some rl) (h1 : isB s j 93 = false) (h2 : charP s j = .ok (lo, j2)) (h3 : isB s j2 45 = true) (h4 : charP s (j2 + 1) = .ok (hi, j3)) (h5 : (hi.toNat : Int) < (lo.toNat : Int)) : rl = .error (20, j2 + 1) := by
  rw [classL, if_neg (by rw [h1]; simp), h2] at h; dsimp only at h; rw [if_pos h3, h4] at h; dsimp only at h
  rw [if_pos (by rw [UInt8.lt_iff_toNat_lt]; omega)] at h; exact (Option.some.inj h).symm
theorem cl_two {s : List UInt8} {f : Nat} {c : List Nat} {j j2 j3 : Nat} {lo hi : UInt8} {rl : Except Er (List Nat × Nat)} (h : classL s (f + 1) c j = some rl) (h1 : isB s j 93 = false) (h2 : charP s j = .ok (lo, j2)) (h3 : isB s j2 45 = true) (h4 : charP s (j2 + 1) = .ok (hi, j3)) (h5 : ¬ (hi.toNat : Int) < (lo.toNat : Int)) : classL s f (unionF c (rangeF lo hi)) j3 = some rl := by
  rw [classL, if_neg (by rw [h1]; simp), h2] at h; dsimp only at h; rw [if_pos h3, h4] at h; dsimp only at h
  rw [if_neg (by rw [UInt8.lt_iff_toNat_lt]; omega)] at h; exact h


set_option maxHeartbeats 1000000 in
set_option maxRecDepth 10000 in
theorem class_ok {G : Ghost} {p : Nat} {s : List UInt8} {q : Nat} {v : Value} (hq : q ≤ s.length) (hl : s.length ≤ 2000000) {f : Nat} {r0 : Except Er (List Nat × Nat)} (hr : classP s f q = some r0) :
  FnX Tryz.prog 109 [.pointer (some ⟨p, 0, none⟩)] G [.blk p 57 [.string ⟨s.toArray⟩, .int .i64 (q : Int), v]] (fun r _ H' => ∃ (c : List Nat) (q2 : Nat), r0 = .ok (c, q2) ∧ q2 ≤ s.length ∧ r = ClsV c ∧ ClsOk c ∧ H' = [.blk p 57 [.string ⟨s.toArray⟩, .int .i64 (q2 : Int), v]]) (fun x _ => ∃ e, r0 = .error e ∧ x = errV e) := by
 have hsz := bsz s
 refine FnX.of_T [(0, _)] Tryz.func109 rfl Tryz.ntmps109 (by simp) rfl fun w0 hs => ?_
 refine T_seq (T_region rfl ?_)
 refine O_s (S_alloc hs Tryz.zeroValue40 (cs := (List.map u64V [0, 0, 0, 0])) rfl fun b2 _ hs => ?_)
 refine O_nil (T_kp [0, 2] rfl ?_)
 refine T_seq (T_region rfl ?_)
 refine O_m rfl ?_
 cases hb9 : isB s q 94
 ·
  have hs := hs.f1
  refine O_s (S_call (H1 := [_]) hs rfl Tryz.func49 rfl (by kernel_rfl) (accept_f (q := q) (b := 94) (by omega) hl hb9) fun v1 G' H' _ hR hG9 hs => ?_)
  obtain ⟨rfl, rfl⟩ := hR
  replace hs : St _ _ [_, _] _ := hs
  refine O_a rfl ?_
  refine O_nil (T_kp [0, 2, 3] rfl ?_)
  obtain ⟨rl, hrl, hr0⟩ := classP_f hb9 hr
  refine T_seq (T_region rfl ?_)
  refine O_s (S_alloc hs Tryz.zeroValue40 (cs := (List.map u64V [0, 0, 0, 0])) rfl fun b4 _ hs => ?_)
  refine O_nil (T_kp [0, 2, 3, 4] rfl ?_)
  refine T_seq (T_block (T_loop (fun m E w => ∃ (f' : Nat) (c : List Nat) (j : Nat) (G' : Ghost), classL s f' c j = some rl ∧ ClsOk c ∧ j ≤ s.length ∧ m = f' ∧ E = ⟨[], [(0, .pointer (some ⟨p, 0, none⟩)), (2, .pointer (some ⟨b2, 0, none⟩)), (3, .bool false), (4, .pointer (some ⟨b4, 0, none⟩))]⟩ ∧ St ⟨w0, G, feet [.blk p 57 [.string ⟨s.toArray⟩, .int .i64 (q : Int), v]]⟩ G' [.blk b4 40 (List.map u64V c), .blk p 57 [.string ⟨s.toArray⟩, .int .i64 (j : Int), v], .blk b2 40 (List.map u64V [0, 0, 0, 0])] w) (L := [(0, _), (2, _), (3, _), (4, _)]) ⟨rfl, rfl, rfl, rfl, trivial⟩ (⟨f, noC, _, _, hrl, noC_ok, by omega, rfl, rfl, hs⟩) fun m E w hI => ?_))
  obtain ⟨f', c, j, G', hcl, hc, hj, rfl, rfl, hs⟩ := hI
  obtain ⟨f1, rfl⟩ := cl_pos hcl
  have hcl4 := hc.1
  refine T_seq (T_seq (T_region rfl ?_))
  refine O_m rfl ?_
  cases hb11 : isB s j 93
  ·
   have hs := hs.f1
   refine O_s (S_call (H1 := [_]) hs rfl Tryz.func49 rfl (by kernel_rfl) (accept_f (q := j) (b := 93) (by omega) hl hb11) fun v2 G' H' _ hR hG11 hs => ?_)
   obtain ⟨rfl, rfl⟩ := hR
   replace hs : St _ _ [_, _, _] _ := hs
   refine O_y hs (Y_not rfl ?_)
   refine O_nil (T_kp [0, 2, 3, 4, 12] rfl ?_)
   refine T_condT rfl (T_skip ?_)
   refine T_block (T_seq (T_region rfl ?_))
   refine O_m rfl ?_
   refine O_s (S_callX (H1 := [_]) hs rfl Tryz.func111 rfl (by kernel_rfl) (char_ok (q := j) (by omega) hl) (fun v G' w' hX hG hs => RtX_panic rfl ⟨_, hs.done, let ⟨e, h1, h2⟩ := hX; ⟨e, by rw [hr0, cl_err hcl hb11 h1]; try rfl, h2⟩⟩) fun v3 G' H' _ hR hG14 hs => ?_)
   obtain ⟨lo, j2, h14, hq14, rfl, rfl⟩ := hR
   replace hs : St _ _ [_, _, _] _ := hs
   refine O_a rfl ?_
   refine O_nil (T_kp [0, 2, 3, 4, 5] rfl ?_)
   refine T_seq (T_region rfl ?_)
   refine O_m rfl ?_
   refine O_a rfl ?_
   refine O_nil (T_kp [0, 2, 3, 4, 5, 6] rfl ?_)
   refine T_seq (T_seq (T_region rfl ?_))
   refine O_m rfl ?_
   cases hb17 : isB s j2 45
   ·
    refine O_s (S_call (H1 := [_]) hs rfl Tryz.func49 rfl (by kernel_rfl) (accept_f (q := j2) (b := 45) (by omega) hl hb17) fun v4 G' H' _ hR hG17 hs => ?_)
    obtain ⟨rfl, rfl⟩ := hR
    replace hs : St _ _ [_, _, _] _ := hs
    refine O_nil (T_kp [0, 2, 3, 4, 5, 6, 17] rfl ?_)
    refine T_condF rfl (T_skip ?_)
    refine T_drawS [0, 1, 2, 3, 4] hs (by kernel_rfl) ?_
    replace hs := hs.drew
    refine A_take 0 rfl (by kernel_rfl) rfl hs (Y_ldW 1 Tryz.isAgg40 Tryz.sizeOf40 rfl rfl (by first | omega | (simp; omega) | simp) ?_)
    refine A_take 1 rfl (by kernel_rfl) rfl hs (Y_move rfl ?_)
    refine A_take 2 rfl (by kernel_rfl) rfl hs (Y_move rfl ?_)
    have hle := hs.le
    refine A_only 3 rfl (by kernel_rfl) rfl (S_call (H1 := []) hs rfl Tryz.func108 rfl (by kernel_rfl) (range_ok (lo := lo) (hi := lo)) fun v5 G' H' _ hR hG33 hs => ?_)
    obtain ⟨rfl, rfl⟩ := hR
    replace hs : St _ _ [_, _, _] _ := hs
    refine A_moreS hs hle hG33 (List.Sublist.refl _) ?_
    have hle := hs.le
    refine A_only 4 rfl (by kernel_rfl) rfl (S_call (H1 := []) hs rfl Tryz.func124 rfl (by kernel_rfl) (union_ok (a := c) (b := rangeF lo lo) hc.1 (range_ok' _ _).1) fun v6 G' H' _ hR hG34 hs => ?_)
    obtain ⟨rfl, rfl⟩ := hR
    replace hs : St _ _ [_, _, _] _ := hs
    have hun := union_ok' hc (range_ok' lo lo)
    have hunl := hun.1
    refine A_moreS hs hle hG34 (List.Sublist.refl _) ?_
    have hs := hs.f1
    refine A_tailN 5 rfl (by kernel_rfl) (by kernel_rfl) rfl (S_stW hs Tryz.sizeOf40 rfl rfl (vs := (List.map u64V (unionF c (rangeF lo lo)))) (by first | omega | (simp; omega) | simp) (by first | omega | (simp; omega) | simp) (u64_all _) fun _ hs => ?_)
    refine A_done (by kernel_rfl) ⟨_, ?_, [(0, _), (2, _), (3, _), (4, _)], ⟨rfl, rfl, rfl, rfl, trivial⟩, ⟨f1, _, _, _, cl_one hcl hb11 h14 hb17, hun, by omega, rfl, rfl, hs⟩⟩
    omega
   ·
    have hlt17 := isB_lt hb17
    refine O_s (S_call (H1 := [_]) hs rfl Tryz.func49 rfl (by kernel_rfl) (accept_t (q := j2) (b := 45) (by omega) hl hb17) fun v7 G' H' _ hR hG17 hs => ?_)
    obtain ⟨rfl, rfl⟩ := hR
    replace hs : St _ _ [_, _, _] _ := hs
    refine O_nil (T_kp [0, 2, 3, 4, 5, 6, 17] rfl ?_)
    refine T_condT rfl (T_seq (T_region rfl ?_))
    refine O_m rfl ?_
    refine O_y hs (Y_nil rfl ?_)
    refine O_y hs (Y_fieldAddr FO57_1 rfl (m := 1) rfl ?_)
    refine O_y hs (Y_ld 0 Tryz.isAgg3 rfl rfl rfl ?_)
    refine O_a rfl ?_
    refine O_nil (T_kp [0, 2, 3, 4, 5, 7] rfl ?_)
    refine T_seq (T_region rfl ?_)
    refine O_m rfl ?_
    refine O_s (S_callX (H1 := [_]) hs rfl Tryz.func111 rfl (by kernel_rfl) (char_ok (q := (j2 + 1 : Nat)) (by omega) hl) (fun v G' w' hX hG hs => RtX_panic rfl ⟨_, hs.done, let ⟨e, h1, h2⟩ := hX; ⟨e, by rw [hr0, cl_err2 hcl hb11 h14 hb17 h1]; try rfl, h2⟩⟩) fun v8 G' H' _ hR hG23 hs => ?_)
    obtain ⟨hi, j3, h23, hq23, rfl, rfl⟩ := hR
    replace hs : St _ _ [_, _, _] _ := hs
    refine O_a rfl ?_
    refine O_nil (T_kp [0, 2, 3, 4, 5, 6, 7] rfl ?_)
    refine T_seq (T_region rfl ?_)
    refine O_m rfl ?_
    refine O_m rfl ?_
    refine O_y hs (Y_cmpS rfl rfl rfl (fun h26 => ?_) (fun h26 => ?_))
    ·
     dsimp only [cmpP] at h26
     refine O_nil (T_kp [0, 2, 3, 4, 5, 6, 7, 26] rfl ?_)
     refine T_condT rfl (T_region rfl ?_)
     refine O_m rfl ?_
     refine O_y hs (Y_build Tryz.zeroValue53 rfl PL53 rfl (cs := [_, _]) rfl ?_)
     refine O_y hs (Y_makeInterface Tryz.underlying53 (fun _ h => by cases h) rfl ?_)
     refine O_n (S_panic rfl (fun _ => rfl) (RtX_panic rfl ⟨_, hs.done, ?_⟩))
     exact ⟨_, by rw [hr0, cl_bad hcl hb11 h14 hb17 h23 h26]; try rfl, rfl⟩
    ·
     dsimp only [cmpP] at h26
     refine O_nil (T_kp [0, 2, 3, 4, 5, 6, 7, 26] rfl ?_)
     refine T_condF rfl (T_skip ?_)
     refine T_drawS [0, 1, 2, 3, 4] hs (by kernel_rfl) ?_
     replace hs := hs.drew
     refine A_take 0 rfl (by kernel_rfl) rfl hs (Y_ldW 1 Tryz.isAgg40 Tryz.sizeOf40 rfl rfl (by first | omega | (simp; omega) | simp) ?_)
     refine A_take 1 rfl (by kernel_rfl) rfl hs (Y_move rfl ?_)
     refine A_take 2 rfl (by kernel_rfl) rfl hs (Y_move rfl ?_)
     have hle := hs.le
     refine A_only 3 rfl (by kernel_rfl) rfl (S_call (H1 := []) hs rfl Tryz.func108 rfl (by kernel_rfl) (range_ok (lo := lo) (hi := hi)) fun v9 G' H' _ hR hG33 hs => ?_)
     obtain ⟨rfl, rfl⟩ := hR
     replace hs : St _ _ [_, _, _] _ := hs
     refine A_moreS hs hle hG33 (List.Sublist.refl _) ?_
     have hle := hs.le
     refine A_only 4 rfl (by kernel_rfl) rfl (S_call (H1 := []) hs rfl Tryz.func124 rfl (by kernel_rfl) (union_ok (a := c) (b := rangeF lo hi) hc.1 (range_ok' _ _).1) fun v10 G' H' _ hR hG34 hs => ?_)
     obtain ⟨rfl, rfl⟩ := hR
     replace hs : St _ _ [_, _, _] _ := hs
     have hun := union_ok' hc (range_ok' lo hi)
     have hunl := hun.1
     refine A_moreS hs hle hG34 (List.Sublist.refl _) ?_
     have hs := hs.f1
     refine A_tailN 5 rfl (by kernel_rfl) (by kernel_rfl) rfl (S_stW hs Tryz.sizeOf40 rfl rfl (vs := (List.map u64V (unionF c (rangeF lo hi)))) (by first | omega | (simp; omega) | simp) (by first | omega | (simp; omega) | simp) (u64_all _) fun _ hs => ?_)
     refine A_done (by kernel_rfl) ⟨_, ?_, [(0, _), (2, _), (3, _), (4, _)], ⟨rfl, rfl, rfl, rfl, trivial⟩, ⟨f1, _, _, _, cl_two hcl hb11 h14 hb17 h23 h26, hun, by omega, rfl, rfl, hs⟩⟩
     omega
  ·
   have hlt11 := isB_lt hb11
   have hs := hs.f1
   refine O_s (S_call (H1 := [_]) hs rfl Tryz.func49 rfl (by kernel_rfl) (accept_t (q := j) (b := 93) (by omega) hl hb11) fun v11 G' H' _ hR hG11 hs => ?_)
   obtain ⟨rfl, rfl⟩ := hR
   replace hs : St _ _ [_, _, _] _ := hs
   refine O_y hs (Y_not rfl ?_)
   refine O_nil (T_kp [0, 2, 3, 4, 12] rfl ?_)
   refine T_condF rfl (T_exit ?_)
   refine T_seq (T_seq (T_region rfl ?_))
   refine O_m rfl ?_
   refine O_nil (T_kp [2, 4, 35] rfl ?_)
   refine T_condF rfl (T_skip ?_)
   refine T_seq (T_region rfl ?_)
   refine O_y hs (Y_ldW 1 Tryz.isAgg40 Tryz.sizeOf40 rfl rfl (by first | omega | (simp; omega) | simp) ?_)
   have hs := hs.f2
   refine O_n (S_stW hs Tryz.sizeOf40 rfl rfl (vs := (List.map u64V c)) (by first | omega | (simp; omega) | simp) (by first | omega | (simp; omega) | simp) (u64_all _) fun _ hs => ?_)
   refine O_nil (T_kp [2] rfl ?_)
   refine T_ret ?_
   have hs := hs.f1
   have hr := hs
   refine RtX_fin (vs := [_]) Tryz.results109 rfl ⟨ResOk_blk 1 hr Tryz.isAgg40 Tryz.sizeOf40 rfl (cs := (List.map u64V c)) rfl (by first | omega | (simp; omega) | simp), trivial⟩ ?_
   try dsimp only [tup]
   have he := cl_end hcl hb11
   exact ⟨_, _, hs.weak hs.le (Ghost.le.refl _) (List.sublist_append_left [_] _), c, j + 1, by rw [hr0, he], by omega, rfl, hc, rfl⟩
 ·
  have hlt9 := isB_lt hb9
  have hs := hs.f1
  refine O_s (S_call (H1 := [_]) hs rfl Tryz.func49 rfl (by kernel_rfl) (accept_t (q := q) (b := 94) (by omega) hl hb9) fun v12 G' H' _ hR hG9 hs => ?_)
  obtain ⟨rfl, rfl⟩ := hR
  replace hs : St _ _ [_, _] _ := hs
  refine O_a rfl ?_
  refine O_nil (T_kp [0, 2, 3] rfl ?_)
  obtain ⟨rl, hrl, hr0⟩ := classP_t hb9 hr
  refine T_seq (T_region rfl ?_)
  refine O_s (S_alloc hs Tryz.zeroValue40 (cs := (List.map u64V [0, 0, 0, 0])) rfl fun b4 _ hs => ?_)
  refine O_nil (T_kp [0, 2, 3, 4] rfl ?_)
  refine T_seq (T_block (T_loop (fun m E w => ∃ (f' : Nat) (c : List Nat) (j : Nat) (G' : Ghost), classL s f' c j = some rl ∧ ClsOk c ∧ j ≤ s.length ∧ m = f' ∧ E = ⟨[], [(0, .pointer (some ⟨p, 0, none⟩)), (2, .pointer (some ⟨b2, 0, none⟩)), (3, .bool true), (4, .pointer (some ⟨b4, 0, none⟩))]⟩ ∧ St ⟨w0, G, feet [.blk p 57 [.string ⟨s.toArray⟩, .int .i64 (q : Int), v]]⟩ G' [.blk b4 40 (List.map u64V c), .blk p 57 [.string ⟨s.toArray⟩, .int .i64 (j : Int), v], .blk b2 40 (List.map u64V [0, 0, 0, 0])] w) (L := [(0, _), (2, _), (3, _), (4, _)]) ⟨rfl, rfl, rfl, rfl, trivial⟩ (⟨f, noC, _, _, hrl, noC_ok, by omega, rfl, rfl, hs⟩) fun m E w hI => ?_))
  obtain ⟨f', c, j, G', hcl, hc, hj, rfl, rfl, hs⟩ := hI
  obtain ⟨f1, rfl⟩ := cl_pos hcl
  have hcl4 := hc.1
  refine T_seq (T_seq (T_region rfl ?_))
  refine O_m rfl ?_
  cases hb11 : isB s j 93
  ·
   have hs := hs.f1
   refine O_s (S_call (H1 := [_]) hs rfl Tryz.func49 rfl (by kernel_rfl) (accept_f (q := j) (b := 93) (by omega) hl hb11) fun v13 G' H' _ hR hG11 hs => ?_)
   obtain ⟨rfl, rfl⟩ := hR
   replace hs : St _ _ [_, _, _] _ := hs
   refine O_y hs (Y_not rfl ?_)
   refine O_nil (T_kp [0, 2, 3, 4, 12] rfl ?_)
   refine T_condT rfl (T_skip ?_)
   refine T_block (T_seq (T_region rfl ?_))
   refine O_m rfl ?_
   refine O_s (S_callX (H1 := [_]) hs rfl Tryz.func111 rfl (by kernel_rfl) (char_ok (q := j) (by omega) hl) (fun v G' w' hX hG hs => RtX_panic rfl ⟨_, hs.done, let ⟨e, h1, h2⟩ := hX; ⟨e, by rw [hr0, cl_err hcl hb11 h1]; try rfl, h2⟩⟩) fun v14 G' H' _ hR hG14 hs => ?_)
   obtain ⟨lo, j2, h14, hq14, rfl, rfl⟩ := hR
   replace hs : St _ _ [_, _, _] _ := hs
   refine O_a rfl ?_
   refine O_nil (T_kp [0, 2, 3, 4, 5] rfl ?_)
   refine T_seq (T_region rfl ?_)
   refine O_m rfl ?_
   refine O_a rfl ?_
   refine O_nil (T_kp [0, 2, 3, 4, 5, 6] rfl ?_)
   refine T_seq (T_seq (T_region rfl ?_))
   refine O_m rfl ?_
   cases hb17 : isB s j2 45
   ·
    refine O_s (S_call (H1 := [_]) hs rfl Tryz.func49 rfl (by kernel_rfl) (accept_f (q := j2) (b := 45) (by omega) hl hb17) fun v15 G' H' _ hR hG17 hs => ?_)
    obtain ⟨rfl, rfl⟩ := hR
    replace hs : St _ _ [_, _, _] _ := hs
    refine O_nil (T_kp [0, 2, 3, 4, 5, 6, 17] rfl ?_)
    refine T_condF rfl (T_skip ?_)
    refine T_drawS [0, 1, 2, 3, 4] hs (by kernel_rfl) ?_
    replace hs := hs.drew
    refine A_take 0 rfl (by kernel_rfl) rfl hs (Y_ldW 1 Tryz.isAgg40 Tryz.sizeOf40 rfl rfl (by first | omega | (simp; omega) | simp) ?_)
    refine A_take 1 rfl (by kernel_rfl) rfl hs (Y_move rfl ?_)
    refine A_take 2 rfl (by kernel_rfl) rfl hs (Y_move rfl ?_)
    have hle := hs.le
    refine A_only 3 rfl (by kernel_rfl) rfl (S_call (H1 := []) hs rfl Tryz.func108 rfl (by kernel_rfl) (range_ok (lo := lo) (hi := lo)) fun v16 G' H' _ hR hG33 hs => ?_)
    obtain ⟨rfl, rfl⟩ := hR
    replace hs : St _ _ [_, _, _] _ := hs
    refine A_moreS hs hle hG33 (List.Sublist.refl _) ?_
    have hle := hs.le
    refine A_only 4 rfl (by kernel_rfl) rfl (S_call (H1 := []) hs rfl Tryz.func124 rfl (by kernel_rfl) (union_ok (a := c) (b := rangeF lo lo) hc.1 (range_ok' _ _).1) fun v17 G' H' _ hR hG34 hs => ?_)
    obtain ⟨rfl, rfl⟩ := hR
    replace hs : St _ _ [_, _, _] _ := hs
    have hun := union_ok' hc (range_ok' lo lo)
    have hunl := hun.1
    refine A_moreS hs hle hG34 (List.Sublist.refl _) ?_
    have hs := hs.f1
    refine A_tailN 5 rfl (by kernel_rfl) (by kernel_rfl) rfl (S_stW hs Tryz.sizeOf40 rfl rfl (vs := (List.map u64V (unionF c (rangeF lo lo)))) (by first | omega | (simp; omega) | simp) (by first | omega | (simp; omega) | simp) (u64_all _) fun _ hs => ?_)
    refine A_done (by kernel_rfl) ⟨_, ?_, [(0, _), (2, _), (3, _), (4, _)], ⟨rfl, rfl, rfl, rfl, trivial⟩, ⟨f1, _, _, _, cl_one hcl hb11 h14 hb17, hun, by omega, rfl, rfl, hs⟩⟩
    omega
   ·
    have hlt17 := isB_lt hb17
    refine O_s (S_call (H1 := [_]) hs rfl Tryz.func49 rfl (by kernel_rfl) (accept_t (q := j2) (b := 45) (by omega) hl hb17) fun v18 G' H' _ hR hG17 hs => ?_)
    obtain ⟨rfl, rfl⟩ := hR
    replace hs : St _ _ [_, _, _] _ := hs
    refine O_nil (T_kp [0, 2, 3, 4, 5, 6, 17] rfl ?_)
    refine T_condT rfl (T_seq (T_region rfl ?_))
    refine O_m rfl ?_
    refine O_y hs (Y_nil rfl ?_)
    refine O_y hs (Y_fieldAddr FO57_1 rfl (m := 1) rfl ?_)
    refine O_y hs (Y_ld 0 Tryz.isAgg3 rfl rfl rfl ?_)
    refine O_a rfl ?_
    refine O_nil (T_kp [0, 2, 3, 4, 5, 7] rfl ?_)
    refine T_seq (T_region rfl ?_)
    refine O_m rfl ?_
    refine O_s (S_callX (H1 := [_]) hs rfl Tryz.func111 rfl (by kernel_rfl) (char_ok (q := (j2 + 1 : Nat)) (by omega) hl) (fun v G' w' hX hG hs => RtX_panic rfl ⟨_, hs.done, let ⟨e, h1, h2⟩ := hX; ⟨e, by rw [hr0, cl_err2 hcl hb11 h14 hb17 h1]; try rfl, h2⟩⟩) fun v19 G' H' _ hR hG23 hs => ?_)
    obtain ⟨hi, j3, h23, hq23, rfl, rfl⟩ := hR
    replace hs : St _ _ [_, _, _] _ := hs
    refine O_a rfl ?_
    refine O_nil (T_kp [0, 2, 3, 4, 5, 6, 7] rfl ?_)
    refine T_seq (T_region rfl ?_)
    refine O_m rfl ?_
    refine O_m rfl ?_
    refine O_y hs (Y_cmpS rfl rfl rfl (fun h26 => ?_) (fun h26 => ?_))
    ·
     dsimp only [cmpP] at h26
     refine O_nil (T_kp [0, 2, 3, 4, 5, 6, 7, 26] rfl ?_)
     refine T_condT rfl (T_region rfl ?_)
     refine O_m rfl ?_
     refine O_y hs (Y_build Tryz.zeroValue53 rfl PL53 rfl (cs := [_, _]) rfl ?_)
     refine O_y hs (Y_makeInterface Tryz.underlying53 (fun _ h => by cases h) rfl ?_)
     refine O_n (S_panic rfl (fun _ => rfl) (RtX_panic rfl ⟨_, hs.done, ?_⟩))
     exact ⟨_, by rw [hr0, cl_bad hcl hb11 h14 hb17 h23 h26]; try rfl, rfl⟩
    ·
     dsimp only [cmpP] at h26
     refine O_nil (T_kp [0, 2, 3, 4, 5, 6, 7, 26] rfl ?_)
     refine T_condF rfl (T_skip ?_)
     refine T_drawS [0, 1, 2, 3, 4] hs (by kernel_rfl) ?_
     replace hs := hs.drew
     refine A_take 0 rfl (by kernel_rfl) rfl hs (Y_ldW 1 Tryz.isAgg40 Tryz.sizeOf40 rfl rfl (by first | omega | (simp; omega) | simp) ?_)
     refine A_take 1 rfl (by kernel_rfl) rfl hs (Y_move rfl ?_)
     refine A_take 2 rfl (by kernel_rfl) rfl hs (Y_move rfl ?_)
     have hle := hs.le
     refine A_only 3 rfl (by kernel_rfl) rfl (S_call (H1 := []) hs rfl Tryz.func108 rfl (by kernel_rfl) (range_ok (lo := lo) (hi := hi)) fun v20 G' H' _ hR hG33 hs => ?_)
     obtain ⟨rfl, rfl⟩ := hR
     replace hs : St _ _ [_, _, _] _ := hs
     refine A_moreS hs hle hG33 (List.Sublist.refl _) ?_
     have hle := hs.le
     refine A_only 4 rfl (by kernel_rfl) rfl (S_call (H1 := []) hs rfl Tryz.func124 rfl (by kernel_rfl) (union_ok (a := c) (b := rangeF lo hi) hc.1 (range_ok' _ _).1) fun v21 G' H' _ hR hG34 hs => ?_)
     obtain ⟨rfl, rfl⟩ := hR
     replace hs : St _ _ [_, _, _] _ := hs
     have hun := union_ok' hc (range_ok' lo hi)
     have hunl := hun.1
     refine A_moreS hs hle hG34 (List.Sublist.refl _) ?_
     have hs := hs.f1
     refine A_tailN 5 rfl (by kernel_rfl) (by kernel_rfl) rfl (S_stW hs Tryz.sizeOf40 rfl rfl (vs := (List.map u64V (unionF c (rangeF lo hi)))) (by first | omega | (simp; omega) | simp) (by first | omega | (simp; omega) | simp) (u64_all _) fun _ hs => ?_)
     refine A_done (by kernel_rfl) ⟨_, ?_, [(0, _), (2, _), (3, _), (4, _)], ⟨rfl, rfl, rfl, rfl, trivial⟩, ⟨f1, _, _, _, cl_two hcl hb11 h14 hb17 h23 h26, hun, by omega, rfl, rfl, hs⟩⟩
     omega
  ·
   have hlt11 := isB_lt hb11
   have hs := hs.f1
   refine O_s (S_call (H1 := [_]) hs rfl Tryz.func49 rfl (by kernel_rfl) (accept_t (q := j) (b := 93) (by omega) hl hb11) fun v22 G' H' _ hR hG11 hs => ?_)
   obtain ⟨rfl, rfl⟩ := hR
   replace hs : St _ _ [_, _, _] _ := hs
   refine O_y hs (Y_not rfl ?_)
   refine O_nil (T_kp [0, 2, 3, 4, 12] rfl ?_)
   refine T_condF rfl (T_exit ?_)
   refine T_seq (T_seq (T_region rfl ?_))
   refine O_m rfl ?_
   refine O_nil (T_kp [2, 4, 35] rfl ?_)
   refine T_condT rfl (T_seq (T_region rfl ?_))
   refine O_y hs (Y_ldW 1 Tryz.isAgg40 Tryz.sizeOf40 rfl rfl (by first | omega | (simp; omega) | simp) ?_)
   refine O_s (S_call (H1 := []) hs rfl Tryz.func125 rfl (by kernel_rfl) (not_ok hc.1) fun v23 G' H' _ hR hG37 hs => ?_)
   obtain ⟨rfl, rfl⟩ := hR
   replace hs : St _ _ [_, _, _] _ := hs
   have hnl := notF_len hc.1
   have hs := hs.f2
   refine O_n (S_stW hs Tryz.sizeOf40 rfl rfl (vs := (List.map u64V (notF c))) (by first | omega | (simp; omega) | simp) (by first | omega | (simp; omega) | simp) (u64_all _) fun _ hs => ?_)
   refine O_nil (T_kp [2] rfl ?_)
   refine T_ret ?_
   have hs := hs.f1
   have hr := hs
   refine RtX_fin (vs := [_]) Tryz.results109 rfl ⟨ResOk_blk 1 hr Tryz.isAgg40 Tryz.sizeOf40 rfl (cs := (List.map u64V (notF c))) rfl (by first | omega | (simp; omega) | simp), trivial⟩ ?_
   try dsimp only [tup]
   have he := cl_end hcl hb11
   exact ⟨_, _, hs.weak hs.le (Ghost.le.refl _) (List.sublist_append_left [_] _), notF c, j + 1, by rw [hr0, he]; rfl, by omega, rfl, not_ok' hc, rfl⟩

end Go.Proofs.YtkmgbcjfidpmgaaGreatDoor
