import Derived.Test.YtkmgbcjfidpmgaaGreatDoorExWalks6
import Derived.Test.YtkmgbcjfidpmgaaGreatDoorProg
import Derived.Test.YtkmgbcjfidpmgaaGreatDoorSame
import Derived.Test.YtkmgbcjfidpmgaaGreatDoorExThin
import Derived.Test.YtkmgbcjfidpmgaaGreatDoorShelf
namespace Go.Proofs.YtkmgbcjfidpmgaaGreatDoor
open Go Go.Ex Go.RowKit


theorem nodeTy : NodeTy Tryz.prog 42 where
  fs := ⟨_, _, _, _, _, _, _, Tryz.underlying42, ⟨by decide, by decide, by decide, by decide, by decide, by decide⟩, ⟨rfl, rfl, rfl, rfl, rfl, rfl⟩, ⟨Tryz.underlying3, Tryz.underlying3, Tryz.underlying3, Tryz.underlying3, Tryz.underlying3⟩, ⟨Tryz.isAgg3, Tryz.isAgg3, Tryz.isAgg3, Tryz.isAgg3, Tryz.isAgg3⟩, Tryz.underlying40, Tryz.sizeOf38, Tryz.isAgg38, Tryz.underlying38, Tryz.isAgg40, Tryz.sizeOf40⟩
  held := by kernel_rfl
  guard := by kernel_rfl
open Classical in
noncomputable def sameN (a b : List NodeV) : Bool := decide (a = b)
open Classical in
theorem same_t {a b : List NodeV} (h : a = b) : sameN a b = true := by unfold sameN; exact decide_eq_true h
open Classical in
theorem same_f {a b : List NodeV} (h : ¬ a = b) : sameN a b = false := by unfold sameN; exact decide_eq_false h


set_option maxHeartbeats 1000000 in
set_option maxRecDepth 10000 in
theorem same_ok {G : Ghost} {u v : Value} {a b : List NodeV} (ha : Rx G u a) (hb : Rx G v b) (hla : a.length ≤ 1000000) :
  FnOk Tryz.prog 15 [u, v] G [] fun r _ H' => H' = [] ∧ r = .bool (sameN a b) := by
 obtain ⟨A, cap, rfl⟩ := LstR.slice ha
 obtain ⟨B, cap2, rfl⟩ := LstR.slice hb
 refine FnOk.of_T [(0, _), (1, _)] Tryz.func15 rfl Tryz.ntmps15 (by simp) rfl fun w0 hs => ?_
 have ha0 := ha
 have hb0 := hb
 refine T_seq (T_region rfl ?_)
 refine O_a rfl ?_
 refine O_nil (T_kp [0, 1] rfl ?_)
 refine T_seq (T_seq (T_region rfl ?_))
 refine O_m rfl ?_
 refine O_y hs (Y_len Tryz.underlying24 rfl ?_)
 refine O_m rfl ?_
 refine O_y hs (Y_len Tryz.underlying24 rfl ?_)
 refine O_y hs (Y_cmpS rfl rfl rfl (fun h10 => ?_) (fun h10 => ?_))
 ·
  dsimp only [cmpP] at h10
  refine O_nil (T_kp [0, 1, 10] rfl ?_)
  refine T_condT rfl (T_seq (T_region rfl ?_))
  refine O_a rfl ?_
  refine O_nil (T_kp [4] rfl ?_)
  refine T_ret ?_
  refine Rt_fin (vs := [_]) Tryz.results15 rfl ⟨rfl, trivial⟩ ?_
  try dsimp only [tup]
  exact ⟨_, [], hs.done, rfl, by rw [same_f (fun h => by rw [h] at h10; exact h10 rfl)]⟩
 ·
  dsimp only [cmpP] at h10
  refine O_nil (T_kp [0, 1, 10] rfl ?_)
  refine T_condF rfl (T_skip ?_)
  refine T_seq (T_seq (T_region rfl ?_))
  refine O_a rfl ?_
  refine O_nil (T_kp [0, 1, 5] rfl ?_)
  refine T_block (T_loop (fun m E w => ∃ (k : Nat) (G' : Ghost), k ≤ a.length ∧ (∀ i (h1 : i < a.length) (h2 : i < b.length), i < k → a[i] = b[i]) ∧ m = a.length - k ∧ E = ⟨[], [(0, (.slice A a.length cap)), (1, (.slice B b.length cap2)), (5, .int .i64 (k : Int))]⟩ ∧ St ⟨w0, G, feet []⟩ G' [] w) (L := [(0, _), (1, _), (5, _)]) ⟨rfl, rfl, rfl, trivial⟩ (⟨0, _, by omega, fun i h1 h2 h3 => absurd h3 (by omega), rfl, rfl, hs⟩) fun m E w hI => ?_)
  obtain ⟨k, G', hk, hall, rfl, rfl, hs⟩ := hI
  have ha := ha0.mono hs.le
  have hb := hb0.mono hs.le
  refine T_seq (T_seq (T_region rfl ?_))
  refine O_m rfl ?_
  refine O_m rfl ?_
  refine O_y hs (Y_len Tryz.underlying24 rfl ?_)
  refine O_y hs (Y_cmpS rfl rfl rfl (fun h14 => ?_) (fun h14 => ?_))
  ·
   dsimp only [cmpP] at h14
   refine O_nil (T_kp [0, 1, 5, 14] rfl ?_)
   refine T_condT rfl (T_skip ?_)
   refine T_seq (T_block (T_seq (T_drawS [0, 1, 2, 3, 4, 5, 6, 7, 8] hs (by kernel_rfl) ?_)))
   replace hs := hs.drew
   refine A_take 0 rfl (by kernel_rfl) rfl hs (Y_move rfl ?_)
   refine A_take 1 rfl (by kernel_rfl) rfl hs (Y_move rfl ?_)
   refine A_take 2 rfl (by kernel_rfl) rfl hs (Y_idxS ha k Tryz.underlying24 Tryz.sizeOf42 rfl rfl rfl (by omega) fun p19 c19 hp19 hc19 hR19 => ?_)
   rw [hR19.1] at hp19
   refine A_take 3 rfl (by kernel_rfl) rfl hs (Y_ldAG (vs := nodeC a[k]) Tryz.isAgg42 Tryz.sizeOf42 rfl hp19 (nodeC_len hR19.2) ?_)
   refine A_take 4 rfl (by kernel_rfl) rfl hs (Y_move rfl ?_)
   refine A_take 5 rfl (by kernel_rfl) rfl hs (Y_move rfl ?_)
   refine A_take 6 rfl (by kernel_rfl) rfl hs (Y_idxS hb k Tryz.underlying24 Tryz.sizeOf42 rfl rfl rfl (by omega) fun p23 c23 hp23 hc23 hR23 => ?_)
   rw [hR23.1] at hp23
   refine A_take 7 rfl (by kernel_rfl) rfl hs (Y_ldAG (vs := nodeC (b[k]'(by omega))) Tryz.isAgg42 Tryz.sizeOf42 rfl hp23 (nodeC_len hR23.2) ?_)
   refine A_take 8 rfl (by kernel_rfl) rfl hs (Y_neqNS (a := a[k]) (b := b[k]'(by omega)) nodeTy hR19.2 hR23.2 rfl rfl (fun h25 => ?_) (fun h25 => ?_))
   ·
    refine A_done (by kernel_rfl) (T_kp [0, 1, 5, 25] rfl ?_)
    refine T_condT rfl (T_seq (T_region rfl ?_))
    refine O_a rfl ?_
    refine O_nil (T_kp [4] rfl ?_)
    refine T_ret ?_
    refine Rt_fin (vs := [_]) Tryz.results15 rfl ⟨rfl, trivial⟩ ?_
    try dsimp only [tup]
    exact ⟨_, [], hs.done, rfl, by rw [same_f (fun h => h25 (by simp only [h]))]⟩
   ·
    refine A_done (by kernel_rfl) (T_kp [0, 1, 5, 25] rfl ?_)
    refine T_condF rfl (T_skip ?_)
    refine T_region rfl ?_
    refine O_m rfl ?_
    refine O_y hs (Y_add (c := ((k + 1 : Nat) : Int)) rfl rfl (by omega) (by omega) ?_)
    refine O_a rfl ?_
    refine O_nil ⟨_, ?_, [(0, _), (1, _), (5, _)], ⟨rfl, rfl, rfl, trivial⟩, ⟨k + 1, _, by omega, fun i h1 h2 h3 => (Nat.lt_or_ge i k).elim (hall i h1 h2) (fun h' => by have e : i = k := (by omega); subst e; exact h25), rfl, rfl, hs⟩⟩
    omega
  ·
   dsimp only [cmpP] at h14
   refine O_nil (T_kp [0, 1, 5, 14] rfl ?_)
   refine T_condF rfl (T_exit ?_)
   refine T_seq (T_region rfl ?_)
   refine O_a rfl ?_
   refine O_nil (T_kp [4] rfl ?_)
   refine T_ret ?_
   refine Rt_fin (vs := [_]) Tryz.results15 rfl ⟨rfl, trivial⟩ ?_
   try dsimp only [tup]
   exact ⟨_, [], hs.done, rfl, by rw [same_t (List.ext_getElem (by omega) (fun i h1 h2 => hall i h1 h2 (by omega)))]⟩

set_option maxHeartbeats 400000 in
set_option maxRecDepth 10000 in
theorem rhas_ok {G : Ghost} {c : List Nat} {x : UInt8} (hc : c.length = 4) :
  FnOk Tryz.prog 84 [ClsV c, .int .u8 (x.toNat : Int)] G [] fun r _ H' => H' = [] ∧ r = .bool (hasF c x) := by
 have hx := x.toNat_lt
 have hcell : (c.map u64V)[x.toNat / 64]? = some (u64V (c.getD (x.toNat / 64) 0)) := by rw [List.getElem?_map, List.getElem?_eq_getElem (by omega), List.getD_eq_getElem?_getD, List.getElem?_eq_getElem (by omega)]; rfl
 refine FnOk.of_T [(0, _), (1, _)] Tryz.func84 rfl Tryz.ntmps84 (by simp) rfl fun w0 hs => ?_
 refine T_seq (T_region rfl ?_)
 refine O_s (S_box hs rfl (cs := (List.map u64V c)) rfl fun b2 _ hs => ?_)
 refine O_a rfl ?_
 refine O_nil (T_kp [1, 2] rfl ?_)
 refine T_seq (T_region rfl ?_)
 refine O_m rfl ?_
 refine O_y hs (Y_quoU (c := ((x.toNat / 64 : Nat) : Int)) rfl rfl (by omega) (by omega) (by omega) ?_)
 refine O_y hs (Y_idxArr' (x.toNat / 64) Tryz.underlying40 Tryz.sizeOf38 rfl rfl rfl (by omega) ?_)
 refine O_y hs (Y_ld 0 Tryz.isAgg38 rfl rfl hcell ?_)
 refine O_m rfl ?_
 refine O_y hs (Y_rem (c := ((x.toNat % 64 : Nat) : Int)) rfl rfl (by omega) (by omega) (by omega) ?_)
 refine O_y hs (Y_shr64 (x.toNat % 64) (by omega) rfl rfl ?_)
 refine O_y hs (Y_and64 (b := 1) rfl rfl ?_)
 refine O_y hs (Y_cmpB (t := hasF c x) rfl rfl rfl (has_iff2 c x) ?_)
 refine O_a rfl ?_
 refine O_nil (T_kp [4] rfl ?_)
 refine T_ret ?_
 refine Rt_fin (vs := [_]) Tryz.results84 rfl ⟨rfl, trivial⟩ ?_
 try dsimp only [tup]
 exact ⟨_, [], hs.done, rfl, rfl⟩

set_option maxHeartbeats 400000 in
set_option maxRecDepth 10000 in
theorem radd_ok {G : Ghost} {c : List Nat} {x : UInt8} (hc : c.length = 4) :
  FnOk Tryz.prog 30 [ClsV c, .int .u8 (x.toNat : Int)] G [] fun r _ H' => H' = [] ∧ r = ClsV (addF c x) := by
 have hx := x.toNat_lt
 have hcell : (c.map u64V)[x.toNat / 64]? = some (u64V (c.getD (x.toNat / 64) 0)) := by rw [List.getElem?_map, List.getElem?_eq_getElem (by omega), List.getD_eq_getElem?_getD, List.getElem?_eq_getElem (by omega)]; rfl
 have hal : (addF c x).length = 4 := by rw [addF_len]; exact hc
 refine FnOk.of_T [(0, _), (1, _)] Tryz.func30 rfl Tryz.ntmps30 (by simp) rfl fun w0 hs => ?_
 refine T_seq (T_region rfl ?_)
 refine O_s (S_box hs rfl (cs := (List.map u64V c)) rfl fun b2 _ hs => ?_)
 refine O_s (S_alloc hs Tryz.zeroValue40 (cs := (List.map u64V [0, 0, 0, 0])) rfl fun b4 _ hs => ?_)
 refine O_nil (T_kp [1, 2, 4] rfl ?_)
 refine T_seq (T_region rfl ?_)
 refine O_m rfl ?_
 refine O_y hs (Y_quoU (c := ((x.toNat / 64 : Nat) : Int)) rfl rfl (by omega) (by omega) (by omega) ?_)
 refine O_m rfl ?_
 refine O_y hs (Y_quoU (c := ((x.toNat / 64 : Nat) : Int)) rfl rfl (by omega) (by omega) (by omega) ?_)
 refine O_y hs (Y_idxArr' (x.toNat / 64) Tryz.underlying40 Tryz.sizeOf38 rfl rfl rfl (by omega) ?_)
 refine O_y hs (Y_ld 1 Tryz.isAgg38 rfl rfl hcell ?_)
 refine O_m rfl ?_
 refine O_y hs (Y_rem (c := ((x.toNat % 64 : Nat) : Int)) rfl rfl (by omega) (by omega) (by omega) ?_)
 refine O_y hs (Y_shl1 (x.toNat % 64) (by omega) rfl rfl ?_)
 refine O_y hs (Y_or64 rfl rfl ?_)
 refine O_y hs (Y_idxArr' (x.toNat / 64) Tryz.underlying40 Tryz.sizeOf38 rfl rfl rfl (by omega) ?_)
 have hs := hs.f1
 refine O_n (S_st hs Tryz.sizeOf38 rfl rfl rfl (by rw [List.length_map]; omega) (cs' := (addF c x).map u64V) (by unfold addF; rw [List.map_set]) fun _ hs => ?_)
 refine O_nil (T_kp [2, 4] rfl ?_)
 refine T_seq (T_region rfl ?_)
 refine O_y hs (Y_ldW 0 Tryz.isAgg40 Tryz.sizeOf40 rfl rfl (by first | omega | (simp; omega) | simp) ?_)
 have hs := hs.f1
 refine O_n (S_stW hs Tryz.sizeOf40 rfl rfl (vs := (List.map u64V (addF c x))) (by first | omega | (simp; omega) | simp) (by first | omega | (simp; omega) | simp) (u64_all _) fun _ hs => ?_)
 refine O_nil (T_kp [4] rfl ?_)
 refine T_ret ?_
 have hr := hs
 refine Rt_fin (vs := [_]) Tryz.results30 rfl ⟨ResOk_blk 0 hr Tryz.isAgg40 Tryz.sizeOf40 rfl (cs := (List.map u64V (addF c x))) rfl (by first | omega | (simp; omega) | simp), trivial⟩ ?_
 try dsimp only [tup]
 exact ⟨_, [], hs.done, rfl, rfl⟩

set_option maxHeartbeats 400000 in
set_option maxRecDepth 10000 in
theorem parsed_ok {G : Ghost} {s : List UInt8} {v : Value} {e : List NodeV} {f : Nat} {r0 : Except Er (List NodeV)} (hx : Rx G v e) (hl : s.length ≤ 2000000) (hel : e.length ≤ 1000000) (hr : parseP s f = some r0) :
  FnOk Tryz.prog 18 [.string ⟨s.toArray⟩, v] G [] fun r _ H' => H' = [] ∧ r = .bool (decide (resE r0 = 0) && (decide (resA r0 = 0) && sameN e (resN r0))) := by
 refine FnOk.of_T [(0, _), (1, _)] Tryz.func18 rfl Tryz.ntmps18 (by simp) rfl fun w0 hs => ?_
 have hx0 := hx
 refine T_seq (T_region rfl ?_)
 refine O_a rfl ?_
 refine O_nil (T_kp [0, 1] rfl ?_)
 refine T_seq (T_region rfl ?_)
 refine O_m rfl ?_
 refine O_s (S_call (H1 := []) hs rfl Tryz.func13 rfl (by kernel_rfl) (parse_ok (f := f) hl hr) fun v1 G' H' _ hR hG10 hs => ?_)
 obtain ⟨rfl, u, hU, rfl⟩ := hR
 replace hs : St _ _ [] _ := hs
 replace hx := hx.mono hG10
 refine O_m rfl ?_
 refine O_y hs (Y_extract rfl rfl ?_)
 refine O_y hs (Y_extract rfl rfl ?_)
 refine O_y hs (Y_extract rfl rfl ?_)
 refine O_a rfl ?_
 refine O_a rfl ?_
 refine O_a rfl ?_
 refine O_nil (T_kp [1, 5, 6, 7] rfl ?_)
 refine T_seq (T_region rfl ?_)
 refine O_m rfl ?_
 refine O_y hs (Y_cmpS rfl rfl rfl (fun h15 => ?_) (fun h15 => ?_))
 ·
  dsimp only [cmpP] at h15
  refine O_m rfl ?_
  refine O_yy 16 hs rfl rfl (Y_move rfl ?_)
  refine O_yy 16 hs rfl rfl (Y_cmpS rfl rfl rfl (fun h18 => ?_) (fun h18 => ?_))
  ·
   dsimp only [cmpP] at h18
   refine O_y hs (Y_pickT rfl rfl ?_)
   refine O_m rfl ?_
   refine O_yy 20 hs rfl rfl (Y_move rfl ?_)
   refine O_yy 20 hs rfl rfl (Y_move rfl ?_)
   refine O_yes 20 rfl rfl (S_call (H1 := []) hs rfl Tryz.func15 rfl (by kernel_rfl) (same_ok hx hU hel) fun v2 G' H' _ hR hG23 hs => ?_)
   obtain ⟨rfl, rfl⟩ := hR
   replace hs : St _ _ [] _ := hs
   replace hx := hx.mono hG23
   replace hU := hU.mono hG23
   cases h23 : sameN e (resN r0)
   ·
    refine O_y hs (Y_pickT rfl rfl ?_)
    refine O_a rfl ?_
    refine O_nil (T_kp [4] rfl ?_)
    refine T_ret ?_
    refine Rt_fin (vs := [_]) Tryz.results18 rfl ⟨rfl, trivial⟩ ?_
    try dsimp only [tup]
    exact ⟨_, [], hs.done, rfl, by rw [decide_eq_true (by omega), decide_eq_true (by omega)]; rfl⟩
   ·
    refine O_y hs (Y_pickT rfl rfl ?_)
    refine O_a rfl ?_
    refine O_nil (T_kp [4] rfl ?_)
    refine T_ret ?_
    refine Rt_fin (vs := [_]) Tryz.results18 rfl ⟨rfl, trivial⟩ ?_
    try dsimp only [tup]
    exact ⟨_, [], hs.done, rfl, by rw [decide_eq_true (by omega), decide_eq_true (by omega)]; rfl⟩
  ·
   dsimp only [cmpP] at h18
   refine O_y hs (Y_pickT rfl rfl ?_)
   refine O_m rfl ?_
   refine O_no 20 rfl rfl ?_
   refine O_no 20 rfl rfl ?_
   refine O_no 20 rfl rfl ?_
   refine O_y hs (Y_pickF rfl rfl ?_)
   refine O_a rfl ?_
   refine O_nil (T_kp [4] rfl ?_)
   refine T_ret ?_
   refine Rt_fin (vs := [_]) Tryz.results18 rfl ⟨rfl, trivial⟩ ?_
   try dsimp only [tup]
   exact ⟨_, [], hs.done, rfl, by rw [decide_eq_true (by omega), decide_eq_false (by omega)]; rfl⟩
 ·
  dsimp only [cmpP] at h15
  refine O_m rfl ?_
  refine O_no 16 rfl rfl ?_
  refine O_no 16 rfl rfl ?_
  refine O_y hs (Y_pickF rfl rfl ?_)
  refine O_m rfl ?_
  refine O_no 20 rfl rfl ?_
  refine O_no 20 rfl rfl ?_
  refine O_no 20 rfl rfl ?_
  refine O_y hs (Y_pickF rfl rfl ?_)
  refine O_a rfl ?_
  refine O_nil (T_kp [4] rfl ?_)
  refine T_ret ?_
  refine Rt_fin (vs := [_]) Tryz.results18 rfl ⟨rfl, trivial⟩ ?_
  try dsimp only [tup]
  exact ⟨_, [], hs.done, rfl, by rw [decide_eq_false (by omega)]; rfl⟩

set_option maxHeartbeats 400000 in
set_option maxRecDepth 10000 in
theorem refused_ok {G : Ghost} {s : List UInt8} {ec at_ : Int} {f : Nat} {r0 : Except Er (List NodeV)} (hl : s.length ≤ 2000000) (hr : parseP s f = some r0) :
  FnOk Tryz.prog 31 [.string ⟨s.toArray⟩, .int .i64 ec, .int .i64 at_] G [] fun r _ H' => H' = [] ∧ r = .bool (decide ((resN r0).length = 0) && (decide (resA r0 = at_) && decide (resE r0 = ec))) := by
 refine FnOk.of_T [(0, _), (1, _), (2, _)] Tryz.func31 rfl Tryz.ntmps31 (by simp) rfl fun w0 hs => ?_
 refine T_seq (T_region rfl ?_)
 refine O_a rfl ?_
 refine O_nil (T_kp [0, 1, 2] rfl ?_)
 refine T_seq (T_region rfl ?_)
 refine O_m rfl ?_
 refine O_s (S_call (H1 := []) hs rfl Tryz.func13 rfl (by kernel_rfl) (parse_ok (f := f) hl hr) fun v1 G' H' _ hR hG12 hs => ?_)
 obtain ⟨rfl, u, hU, rfl⟩ := hR
 replace hs : St _ _ [] _ := hs
 obtain ⟨Au, cu, rfl⟩ := LstR.slice hU
 refine O_m rfl ?_
 refine O_y hs (Y_extract rfl rfl ?_)
 refine O_y hs (Y_extract rfl rfl ?_)
 refine O_y hs (Y_extract rfl rfl ?_)
 refine O_a rfl ?_
 refine O_a rfl ?_
 refine O_a rfl ?_
 refine O_nil (T_kp [1, 2, 7, 8, 9] rfl ?_)
 refine T_seq (T_region rfl ?_)
 refine O_m rfl ?_
 refine O_y hs (Y_len Tryz.underlying24 rfl ?_)
 refine O_y hs (Y_cmpS rfl rfl rfl (fun h18 => ?_) (fun h18 => ?_))
 ·
  dsimp only [cmpP] at h18
  refine O_m rfl ?_
  refine O_yy 19 hs rfl rfl (Y_move rfl ?_)
  refine O_yy 19 hs rfl rfl (Y_move rfl ?_)
  refine O_yy 19 hs rfl rfl (Y_cmpS rfl rfl rfl (fun h22 => ?_) (fun h22 => ?_))
  ·
   dsimp only [cmpP] at h22
   refine O_y hs (Y_pickT rfl rfl ?_)
   refine O_m rfl ?_
   refine O_yy 24 hs rfl rfl (Y_move rfl ?_)
   refine O_yy 24 hs rfl rfl (Y_move rfl ?_)
   refine O_yy 24 hs rfl rfl (Y_cmpS rfl rfl rfl (fun h27 => ?_) (fun h27 => ?_))
   ·
    dsimp only [cmpP] at h27
    refine O_y hs (Y_pickT rfl rfl ?_)
    refine O_a rfl ?_
    refine O_nil (T_kp [6] rfl ?_)
    refine T_ret ?_
    refine Rt_fin (vs := [_]) Tryz.results31 rfl ⟨rfl, trivial⟩ ?_
    try dsimp only [tup]
    exact ⟨_, [], hs.done, rfl, by rw [decide_eq_true (by omega), decide_eq_true (by omega), decide_eq_true (by omega)]; rfl⟩
   ·
    dsimp only [cmpP] at h27
    refine O_y hs (Y_pickT rfl rfl ?_)
    refine O_a rfl ?_
    refine O_nil (T_kp [6] rfl ?_)
    refine T_ret ?_
    refine Rt_fin (vs := [_]) Tryz.results31 rfl ⟨rfl, trivial⟩ ?_
    try dsimp only [tup]
    exact ⟨_, [], hs.done, rfl, by rw [decide_eq_true (by omega), decide_eq_true (by omega), decide_eq_false (by omega)]; rfl⟩
  ·
   dsimp only [cmpP] at h22
   refine O_y hs (Y_pickT rfl rfl ?_)
   refine O_m rfl ?_
   refine O_no 24 rfl rfl ?_
   refine O_no 24 rfl rfl ?_
   refine O_no 24 rfl rfl ?_
   refine O_y hs (Y_pickF rfl rfl ?_)
   refine O_a rfl ?_
   refine O_nil (T_kp [6] rfl ?_)
   refine T_ret ?_
   refine Rt_fin (vs := [_]) Tryz.results31 rfl ⟨rfl, trivial⟩ ?_
   try dsimp only [tup]
   exact ⟨_, [], hs.done, rfl, by rw [decide_eq_true (by omega), decide_eq_false (by omega)]; rfl⟩
 ·
  dsimp only [cmpP] at h18
  refine O_m rfl ?_
  refine O_no 19 rfl rfl ?_
  refine O_no 19 rfl rfl ?_
  refine O_no 19 rfl rfl ?_
  refine O_y hs (Y_pickF rfl rfl ?_)
  refine O_m rfl ?_
  refine O_no 24 rfl rfl ?_
  refine O_no 24 rfl rfl ?_
  refine O_no 24 rfl rfl ?_
  refine O_y hs (Y_pickF rfl rfl ?_)
  refine O_a rfl ?_
  refine O_nil (T_kp [6] rfl ?_)
  refine T_ret ?_
  refine Rt_fin (vs := [_]) Tryz.results31 rfl ⟨rfl, trivial⟩ ?_
  try dsimp only [tup]
  exact ⟨_, [], hs.done, rfl, by rw [decide_eq_false (by omega)]; rfl⟩

end Go.Proofs.YtkmgbcjfidpmgaaGreatDoor
