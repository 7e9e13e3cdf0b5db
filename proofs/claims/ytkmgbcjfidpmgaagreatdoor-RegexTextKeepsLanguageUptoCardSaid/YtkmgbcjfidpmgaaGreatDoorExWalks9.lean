import Derived.Test.YtkmgbcjfidpmgaaGreatDoorLaws
import Derived.Test.YtkmgbcjfidpmgaaGreatDoorProg
import Derived.Test.YtkmgbcjfidpmgaaGreatDoorSame
import Derived.Test.YtkmgbcjfidpmgaaGreatDoorExThin
import Derived.Test.YtkmgbcjfidpmgaaGreatDoorShelf
namespace Go.Proofs.YtkmgbcjfidpmgaaGreatDoor
open Go Go.Ex Go.RowKit
theorem TI24 : TI Tryz.prog 24 (.slice none 0 0) 1 24 := TI.of (by kernel_rfl)

theorem app_cls {l : List NodeV} {n : NodeV} (h : ∀ m ∈ l, ClsOk m.c) (hn : ClsOk n.c) : ∀ m ∈ l ++ [n], ClsOk m.c := fun m hm => by
  rcases List.mem_append.1 hm with h' | h'
  · exact h m h'
  · rw [List.mem_singleton] at h'; subst h'; exact hn
theorem rx_row {G : Ghost} {v : Value} {ns : List NodeV} {n m : Nat} {xs : List Value} (h : Sl G v 9 m xs) (hm : m = ns.length) (hx : xs = ns.flatMap nodeC) (hc : ∀ n ∈ ns, ClsOk n.c) : Rx G v ns := by subst hm hx; exact rx_of h hc


set_option maxHeartbeats 1000000 in
set_option maxRecDepth 10000 in
theorem rwith_ok {G : Ghost} {v : Value} {l : List NodeV} {n : NodeV} (hx : Rx G v l) (hn : ClsOk n.c) (hl : l.length ≤ 10000000) :
  FnOk Tryz.prog 29 [v, .agg (nodeC n).toArray] G [] fun r G' H' => H' = [] ∧ Rx G' r (l ++ [n]) := by
 obtain ⟨A, cap, rfl⟩ := LstR.slice hx
 have hcl := rx_cls hx
 obtain ⟨k0, d, l0, r0, m0, x0⟩ := n
 obtain ⟨d0, d1, d2, d3, rfl⟩ := four_of hn.1
 show FnOk Tryz.prog 29 [.slice A l.length cap, .agg #[.int .i64 k0, u64V d0, u64V d1, u64V d2, u64V d3, .int .i64 l0, .int .i64 r0, .int .i64 m0, .int .i64 x0]] G [] _
 refine FnOk.of_T [(0, _), (1, _)] Tryz.func29 rfl Tryz.ntmps29 (by simp) rfl fun w0 hs => ?_
 have hx0 := hx
 refine T_seq (T_region rfl ?_)
 refine O_s (S_box hs rfl (cs := [_, _, _, _, _, _, _, _, _]) rfl fun b3 _ hs => ?_)
 refine O_a rfl ?_
 refine O_nil (T_kp [0, 3] rfl ?_)
 refine T_seq (T_region rfl ?_)
 refine O_s (S_lit hs Tryz.underlying24 Tryz.sizeOf42 Tryz.zeroValue42 rfl rfl (by decide) (by decide) rfl (cs := []) rfl rfl fun v1 _ hs _ => ?_)
 refine O_a rfl ?_
 refine O_nil (T_kp [0, 3, 5] rfl ?_)
 refine T_seq (T_seq (T_region rfl ?_))
 refine O_a rfl ?_
 refine O_nil (T_kp [0, 3, 5, 6] rfl ?_)
 refine T_block (T_loop (fun m E w => ∃ (k : Nat) (v1 : Value) (G' : Ghost), k ≤ l.length ∧ m = l.length - k ∧ E = ⟨[], [(0, (.slice A l.length cap)), (3, .pointer (some ⟨b3, 0, none⟩)), (5, v1), (6, .int .i64 (k : Int))]⟩ ∧ St ⟨w0, G, feet []⟩ G' [.row 42 9 v1 (l.take k).length ((l.take k).flatMap nodeC), .blk b3 42 [.int .i64 k0, u64V d0, u64V d1, u64V d2, u64V d3, .int .i64 l0, .int .i64 r0, .int .i64 m0, .int .i64 x0]] w) (L := [(0, _), (3, _), (5, _), (6, _)]) ⟨rfl, rfl, rfl, rfl, trivial⟩ (⟨0, _, _, by omega, rfl, rfl, hs⟩) fun m E w hI => ?_)
 obtain ⟨k, v1, G', hk, rfl, rfl, hs⟩ := hI
 have hx := hx0.mono hs.le
 have htl : (l.take k).length = k := by rw [List.length_take]; omega
 refine T_seq (T_seq (T_region rfl ?_))
 refine O_m rfl ?_
 refine O_m rfl ?_
 refine O_y hs (Y_len Tryz.underlying24 rfl ?_)
 refine O_y hs (Y_cmpS rfl rfl rfl (fun h11 => ?_) (fun h11 => ?_))
 ·
  dsimp only [cmpP] at h11
  refine O_nil (T_kp [0, 3, 5, 6, 11] rfl ?_)
  refine T_condT rfl (T_skip ?_)
  refine T_seq (T_block (T_region rfl ?_))
  refine O_m rfl ?_
  refine O_m rfl ?_
  refine O_m rfl ?_
  refine O_y hs (Y_idxS hx k Tryz.underlying24 Tryz.sizeOf42 rfl rfl rfl (by omega) fun p17 c17 hp17 hc17 hR17 => ?_)
  obtain ⟨rfl, hco17⟩ := hR17
  obtain ⟨nk, hnk⟩ : ∃ n, n = l[k] := ⟨_, rfl⟩
  rw [← hnk] at hp17 hco17
  have htk : l.take (k + 1) = l.take k ++ [nk] := by rw [List.take_add_one, List.getElem?_eq_getElem (by omega), hnk]; rfl
  obtain ⟨kd, cc, ll, rr, mn, mx⟩ := nk
  obtain ⟨c0, c1, c2, c3, rfl⟩ := four_of hco17.1
  refine O_y hs (Y_ldAG (vs := [.int .i64 kd, u64V c0, u64V c1, u64V c2, u64V c3, .int .i64 ll, .int .i64 rr, .int .i64 mn, .int .i64 mx]) Tryz.isAgg42 Tryz.sizeOf42 rfl hp17 rfl ?_)
  refine O_s (S_lit hs Tryz.underlying24 Tryz.sizeOf42 Tryz.zeroValue42 rfl rfl (by decide) (by decide) rfl (cs := [_, _, _, _, _, _, _, _, _]) rfl rfl fun v2 _ hs _ => ?_)
  obtain ⟨_, hG19, hl19, hs⟩ := hs.fixRow noM
  replace hx := hx.mono hG19
  refine O_s (S_append hs Tryz.underlying24 TI42 rfl (by decide) rfl rfl (hl19) (nine1 rfl rfl rfl rfl rfl rfl rfl rfl rfl) (by omega) (by omega) fun v3 _ hs => ?_)
  refine O_a rfl ?_
  refine O_nil (T_kp [0, 3, 5, 6] rfl ?_)
  refine T_region rfl ?_
  refine O_m rfl ?_
  refine O_y hs (Y_add (c := ((k + 1 : Nat) : Int)) rfl rfl (by omega) (by omega) ?_)
  refine O_a rfl ?_
  have hs := hs.f1
  have hs := hs.f1
  refine O_nil ⟨_, ?_, [(0, _), (3, _), (5, _), (6, _)], ⟨rfl, rfl, rfl, rfl, trivial⟩, ⟨k + 1, v3, _, by omega, rfl, rfl, by rw [htk, flat_emit, List.length_append]; exact hs⟩⟩
  omega
 ·
  dsimp only [cmpP] at h11
  refine O_nil (T_kp [0, 3, 5, 6, 11] rfl ?_)
  refine T_condF rfl (T_exit ?_)
  obtain rfl : k = l.length := by omega
  rw [List.take_length] at hs
  refine T_seq (T_region rfl ?_)
  refine O_m rfl ?_
  refine O_y hs (Y_ldA 1 Tryz.isAgg42 Tryz.sizeOf42 rfl rfl (vs := [_, _, _, _, _, _, _, _, _]) rfl rfl ?_)
  refine O_s (S_lit hs Tryz.underlying24 Tryz.sizeOf42 Tryz.zeroValue42 rfl rfl (by decide) (by decide) rfl (cs := [_, _, _, _, _, _, _, _, _]) rfl rfl fun v4 _ hs _ => ?_)
  obtain ⟨_, hG23, hl23, hs⟩ := hs.fixRow noM
  replace hx := hx.mono hG23
  refine O_s (S_append hs Tryz.underlying24 TI42 rfl (by decide) rfl rfl (hl23) (nine1 rfl rfl rfl rfl rfl rfl rfl rfl rfl) (by omega) (by omega) fun v5 _ hs => ?_)
  refine O_a rfl ?_
  refine O_nil (T_kp [4] rfl ?_)
  refine T_ret ?_
  refine Rt_fin (vs := [_]) Tryz.results29 rfl ⟨rfl, trivial⟩ ?_
  try dsimp only [tup]
  obtain ⟨_, _, hf, hs⟩ := hs.fixRow noM
  exact ⟨_, [], hs.done, rfl, rx_row (n := 0) hf (by rw [List.length_append]; rfl) (flat_emit l ⟨k0, [d0, d1, d2, d3], l0, r0, m0, x0⟩).symm (app_cls hcl hn)⟩

set_option maxHeartbeats 400000 in
set_option maxRecDepth 10000 in
theorem rops_ok {G : Ghost} {k : Int} :
  FnOk Tryz.prog 41 [.int .i64 k] G [] fun r _ H' => H' = [] ∧ r = .int .i64 ((arF k : Nat) : Int) := by
 refine FnOk.of_T [(0, _)] Tryz.func41 rfl Tryz.ntmps41 (by simp) rfl fun w0 hs => ?_
 refine T_seq (T_region rfl ?_)
 refine O_a rfl ?_
 refine O_nil (T_kp [0] rfl ?_)
 refine T_seq (T_seq (T_region rfl ?_))
 refine O_m rfl ?_
 refine O_nil (T_kp [3] rfl ?_)
 refine T_block (T_seq (T_seq (T_region rfl ?_)))
 refine O_y hs (Y_cmpS rfl rfl rfl (fun h5 => ?_) (fun h5 => ?_))
 ·
  dsimp only [cmpP] at h5
  refine O_a rfl ?_
  refine O_nil (T_kp [3, 4] rfl ?_)
  refine T_condT rfl (T_skip ?_)
  refine T_condT rfl (T_seq (T_region rfl ?_))
  refine O_a rfl ?_
  refine O_nil (T_kp [2] rfl ?_)
  refine T_ret ?_
  refine Rt_fin (vs := [_]) Tryz.results41 rfl ⟨rfl, trivial⟩ ?_
  try dsimp only [tup]
  exact ⟨_, [], hs.done, rfl, by rw [arF_2 (by omega)]; rfl⟩
 ·
  dsimp only [cmpP] at h5
  refine O_a rfl ?_
  refine O_nil (T_kp [3, 4] rfl ?_)
  refine T_condF rfl (T_seq (T_region rfl ?_))
  refine O_y hs (Y_cmpS rfl rfl rfl (fun h6 => ?_) (fun h6 => ?_))
  ·
   dsimp only [cmpP] at h6
   refine O_a rfl ?_
   refine O_nil (T_kp [3, 4] rfl ?_)
   refine T_condT rfl (T_skip ?_)
   refine T_condT rfl (T_seq (T_region rfl ?_))
   refine O_a rfl ?_
   refine O_nil (T_kp [2] rfl ?_)
   refine T_ret ?_
   refine Rt_fin (vs := [_]) Tryz.results41 rfl ⟨rfl, trivial⟩ ?_
   try dsimp only [tup]
   exact ⟨_, [], hs.done, rfl, by rw [arF_2 (by omega)]; rfl⟩
  ·
   dsimp only [cmpP] at h6
   refine O_a rfl ?_
   refine O_nil (T_kp [3, 4] rfl ?_)
   refine T_condF rfl (T_region rfl ?_)
   refine O_y hs (Y_cmpS rfl rfl rfl (fun h7 => ?_) (fun h7 => ?_))
   ·
    dsimp only [cmpP] at h7
    refine O_a rfl ?_
    refine O_nil (T_kp [3, 4] rfl ?_)
    refine T_condT rfl (T_seq (T_region rfl ?_))
    refine O_a rfl ?_
    refine O_nil (T_kp [2] rfl ?_)
    refine T_ret ?_
    refine Rt_fin (vs := [_]) Tryz.results41 rfl ⟨rfl, trivial⟩ ?_
    try dsimp only [tup]
    exact ⟨_, [], hs.done, rfl, by rw [arF_2 (by omega)]; rfl⟩
   ·
    dsimp only [cmpP] at h7
    refine O_a rfl ?_
    refine O_nil (T_kp [3, 4] rfl ?_)
    refine T_condF rfl (T_seq (T_seq (T_region rfl ?_)))
    refine O_y hs (Y_cmpS rfl rfl rfl (fun h9 => ?_) (fun h9 => ?_))
    ·
     dsimp only [cmpP] at h9
     refine O_a rfl ?_
     refine O_nil (T_kp [3, 8] rfl ?_)
     refine T_condT rfl (T_skip ?_)
     refine T_condT rfl (T_seq (T_region rfl ?_))
     refine O_a rfl ?_
     refine O_nil (T_kp [2] rfl ?_)
     refine T_ret ?_
     refine Rt_fin (vs := [_]) Tryz.results41 rfl ⟨rfl, trivial⟩ ?_
     try dsimp only [tup]
     exact ⟨_, [], hs.done, rfl, by rw [arF_1 (by omega)]; rfl⟩
    ·
     dsimp only [cmpP] at h9
     refine O_a rfl ?_
     refine O_nil (T_kp [3, 8] rfl ?_)
     refine T_condF rfl (T_region rfl ?_)
     refine O_y hs (Y_cmpS rfl rfl rfl (fun h10 => ?_) (fun h10 => ?_))
     ·
      dsimp only [cmpP] at h10
      refine O_a rfl ?_
      refine O_nil (T_kp [8] rfl ?_)
      refine T_condT rfl (T_seq (T_region rfl ?_))
      refine O_a rfl ?_
      refine O_nil (T_kp [2] rfl ?_)
      refine T_ret ?_
      refine Rt_fin (vs := [_]) Tryz.results41 rfl ⟨rfl, trivial⟩ ?_
      try dsimp only [tup]
      exact ⟨_, [], hs.done, rfl, by rw [arF_1 (by omega)]; rfl⟩
     ·
      dsimp only [cmpP] at h10
      refine O_a rfl ?_
      refine O_nil (T_kp [8] rfl ?_)
      refine T_condF rfl (T_skip ?_)
      refine T_seq (T_region rfl ?_)
      refine O_a rfl ?_
      refine O_nil (T_kp [2] rfl ?_)
      refine T_ret ?_
      refine Rt_fin (vs := [_]) Tryz.results41 rfl ⟨rfl, trivial⟩ ?_
      try dsimp only [tup]
      exact ⟨_, [], hs.done, rfl, by rw [arF_0 (by omega) (by omega)]; rfl⟩

set_option maxHeartbeats 400000 in
set_option maxRecDepth 10000 in
theorem run_ok {G : Ghost} {v : Value} {l : List NodeV} {n : NodeV} (hx : Rx G v l) (hn : ClsOk n.c) (hl : l.length ≤ 10000000) :
  FnOk Tryz.prog 22 [.agg (nodeC n).toArray, v] G [] fun r G' H' => H' = [] ∧ Rx G' r (unF n l) := by
 obtain ⟨A, cap, rfl⟩ := LstR.slice hx
 obtain ⟨k0, d, l0, r0, m0, x0⟩ := n
 obtain ⟨d0, d1, d2, d3, rfl⟩ := four_of hn.1
 show FnOk Tryz.prog 22 [.agg #[.int .i64 k0, u64V d0, u64V d1, u64V d2, u64V d3, .int .i64 l0, .int .i64 r0, .int .i64 m0, .int .i64 x0], .slice A l.length cap] G [] _
 refine FnOk.of_T [(0, _), (1, _)] Tryz.func22 rfl Tryz.ntmps22 (by simp) rfl fun w0 hs => ?_
 have hx0 := hx
 refine T_seq (T_region rfl ?_)
 refine O_s (S_box hs rfl (cs := [_, _, _, _, _, _, _, _, _]) rfl fun b2 _ hs => ?_)
 refine O_a rfl ?_
 refine O_nil (T_kp [1, 2] rfl ?_)
 refine T_seq (T_region rfl ?_)
 refine O_m rfl ?_
 refine O_y hs (Y_len Tryz.underlying24 rfl ?_)
 refine O_y hs (Y_sub (c := ((l.length : Int) - 1)) rfl rfl (by omega) (by omega) ?_)
 refine O_y hs (Y_fieldAddr FO42_2 rfl (m := 5) rfl ?_)
 refine O_n (S_st hs Tryz.sizeOf3 rfl rfl rfl (by simp) (cs' := [_, _, _, _, _, _, _, _, _]) rfl fun _ hs => ?_)
 refine O_nil (T_kp [1, 2] rfl ?_)
 refine T_seq (T_region rfl ?_)
 refine O_m rfl ?_
 refine O_y hs (Y_ldA 0 Tryz.isAgg42 Tryz.sizeOf42 rfl rfl (vs := [_, _, _, _, _, _, _, _, _]) rfl rfl ?_)
 refine O_s (S_call (H1 := []) hs rfl Tryz.func29 rfl (by kernel_rfl) (rwith_ok (n := ⟨k0, [d0, d1, d2, d3], (l.length : Int) - 1, r0, m0, x0⟩) hx hn hl) fun v1 G' H' _ hR hG11 hs => ?_)
 obtain ⟨rfl, hU⟩ := hR
 replace hs : St _ _ [_] _ := hs
 replace hx := hx.mono hG11
 refine O_a rfl ?_
 refine O_nil (T_kp [4] rfl ?_)
 refine T_ret ?_
 refine Rt_fin (vs := [_]) Tryz.results22 rfl ⟨rfl, trivial⟩ ?_
 try dsimp only [tup]
 exact ⟨_, [], hs.done, rfl, hU⟩

theorem shift_cls {l : List NodeV} {k : Nat} (h : ∀ m ∈ l, ClsOk m.c) : ∀ m ∈ l.map (shiftN k), ClsOk m.c := fun m hm => by
  obtain ⟨n, hn, rfl⟩ := List.mem_map.1 hm
  exact h n hn
theorem binF_cls {k : Int} {x y : List NodeV} (hx : ∀ m ∈ x, ClsOk m.c) (hy : ∀ m ∈ y, ClsOk m.c) : ∀ m ∈ binF k x y, ClsOk m.c := app_cls (fun m hm => (List.mem_append.1 hm).elim (hx m) (shift_cls hy m)) noC_ok


set_option maxHeartbeats 2000000 in
set_option maxRecDepth 10000 in
theorem rbin_row {G : Ghost} {v w : Value} {kk : Int} {x y : List NodeV} (hx : Rx G v x) (hy : Rx G w y) (hlx : x.length ≤ 10000000) (hly : y.length ≤ 10000000) (hr : ∀ m ∈ y, -1000000000 ≤ m.l ∧ m.l ≤ 1000000000 ∧ -1000000000 ≤ m.r ∧ m.r ≤ 1000000000) :
  FnOk Tryz.prog 20 [.int .i64 kk, v, w] G [] fun r _ H' => H' = [.row 42 9 r (binF kk x y).length ((binF kk x y).flatMap nodeC)] := by
 obtain ⟨A, cap, rfl⟩ := LstR.slice hx
 obtain ⟨Aw, cw, rfl⟩ := LstR.slice hy
 have hclx := rx_cls hx
 have hcly := rx_cls hy
 refine FnOk.of_T [(0, _), (1, _), (2, _)] Tryz.func20 rfl Tryz.ntmps20 (by simp) rfl fun w0 hs => ?_
 have hx0 := hx
 have hy0 := hy
 refine T_seq (T_region rfl ?_)
 refine O_a rfl ?_
 refine O_nil (T_kp [0, 1, 2] rfl ?_)
 refine T_seq (T_region rfl ?_)
 refine O_s (S_lit hs Tryz.underlying24 Tryz.sizeOf42 Tryz.zeroValue42 rfl rfl (by decide) (by decide) rfl (cs := []) rfl rfl fun v1 _ hs _ => ?_)
 refine O_a rfl ?_
 refine O_nil (T_kp [0, 1, 2, 7] rfl ?_)
 refine T_seq (T_seq (T_region rfl ?_))
 refine O_a rfl ?_
 refine O_nil (T_kp [0, 1, 2, 7, 8] rfl ?_)
 refine T_block (T_loop (fun m E w => ∃ (k : Nat) (v1 : Value) (G' : Ghost), k ≤ x.length ∧ m = x.length - k ∧ E = ⟨[], [(0, .int .i64 kk), (1, (.slice A x.length cap)), (2, (.slice Aw y.length cw)), (7, v1), (8, .int .i64 (k : Int))]⟩ ∧ St ⟨w0, G, feet []⟩ G' [.row 42 9 v1 (x.take k).length ((x.take k).flatMap nodeC)] w) (L := [(0, _), (1, _), (2, _), (7, _), (8, _)]) ⟨rfl, rfl, rfl, rfl, rfl, trivial⟩ (⟨0, _, _, by omega, rfl, rfl, hs⟩) fun m E w hI => ?_)
 obtain ⟨k, v1, G', hk, rfl, rfl, hs⟩ := hI
 have hx := hx0.mono hs.le
 have hy := hy0.mono hs.le
 have htl : (x.take k).length = k := by rw [List.length_take]; omega
 refine T_seq (T_seq (T_region rfl ?_))
 refine O_m rfl ?_
 refine O_m rfl ?_
 refine O_y hs (Y_len Tryz.underlying24 rfl ?_)
 refine O_y hs (Y_cmpS rfl rfl rfl (fun h16 => ?_) (fun h16 => ?_))
 ·
  dsimp only [cmpP] at h16
  refine O_nil (T_kp [0, 1, 2, 7, 8, 16] rfl ?_)
  refine T_condT rfl (T_skip ?_)
  refine T_seq (T_block (T_region rfl ?_))
  refine O_m rfl ?_
  refine O_m rfl ?_
  refine O_m rfl ?_
  refine O_y hs (Y_idxS hx k Tryz.underlying24 Tryz.sizeOf42 rfl rfl rfl (by omega) fun p22 c22 hp22 hc22 hR22 => ?_)
  obtain ⟨rfl, hco22⟩ := hR22
  obtain ⟨nk, hnk⟩ : ∃ n, n = x[k] := ⟨_, rfl⟩
  rw [← hnk] at hp22 hco22
  have htk : x.take (k + 1) = x.take k ++ [nk] := by rw [List.take_add_one, List.getElem?_eq_getElem (by omega), hnk]; rfl
  obtain ⟨kd, cc, ll, rr, mn, mx⟩ := nk
  obtain ⟨c0, c1, c2, c3, rfl⟩ := four_of hco22.1
  refine O_y hs (Y_ldAG (vs := [.int .i64 kd, u64V c0, u64V c1, u64V c2, u64V c3, .int .i64 ll, .int .i64 rr, .int .i64 mn, .int .i64 mx]) Tryz.isAgg42 Tryz.sizeOf42 rfl hp22 rfl ?_)
  refine O_s (S_lit hs Tryz.underlying24 Tryz.sizeOf42 Tryz.zeroValue42 rfl rfl (by decide) (by decide) rfl (cs := [_, _, _, _, _, _, _, _, _]) rfl rfl fun v2 _ hs _ => ?_)
  obtain ⟨_, hG24, hl24, hs⟩ := hs.fixRow noM
  replace hx := hx.mono hG24
  replace hy := hy.mono hG24
  refine O_s (S_append hs Tryz.underlying24 TI42 rfl (by decide) rfl rfl (hl24) (nine1 rfl rfl rfl rfl rfl rfl rfl rfl rfl) (by omega) (by omega) fun v3 _ hs => ?_)
  refine O_a rfl ?_
  refine O_nil (T_kp [0, 1, 2, 7, 8] rfl ?_)
  refine T_region rfl ?_
  refine O_m rfl ?_
  refine O_y hs (Y_add (c := ((k + 1 : Nat) : Int)) rfl rfl (by omega) (by omega) ?_)
  refine O_a rfl ?_
  refine O_nil ⟨_, ?_, [(0, _), (1, _), (2, _), (7, _), (8, _)], ⟨rfl, rfl, rfl, rfl, rfl, trivial⟩, ⟨k + 1, v3, _, by omega, rfl, rfl, by rw [htk, flat_emit, List.length_append]; exact hs⟩⟩
  omega
 ·
  dsimp only [cmpP] at h16
  refine O_nil (T_kp [0, 1, 2, 7, 8, 16] rfl ?_)
  refine T_condF rfl (T_exit ?_)
  obtain rfl : k = x.length := by omega
  rw [List.take_length] at hs
  refine T_seq (T_seq (T_region rfl ?_))
  refine O_a rfl ?_
  refine O_nil (T_kp [0, 1, 2, 7, 9] rfl ?_)
  refine T_block (T_loop (fun m E w => ∃ (k : Nat) (v2 : Value) (G' : Ghost), k ≤ y.length ∧ m = y.length - k ∧ E = ⟨[], [(0, .int .i64 kk), (1, (.slice A x.length cap)), (2, (.slice Aw y.length cw)), (7, v2), (9, .int .i64 (k : Int))]⟩ ∧ St ⟨w0, G, feet []⟩ G' [.row 42 9 v2 (x ++ (y.take k).map (shiftN x.length)).length ((x ++ (y.take k).map (shiftN x.length)).flatMap nodeC)] w) (L := [(0, _), (1, _), (2, _), (7, _), (9, _)]) ⟨rfl, rfl, rfl, rfl, rfl, trivial⟩ (⟨0, _, _, by omega, rfl, rfl, by rw [List.take_zero, List.map_nil, List.append_nil]; exact hs⟩) fun m E w hI => ?_)
  obtain ⟨k, v2, G', hk, rfl, rfl, hs⟩ := hI
  have hx := hx0.mono hs.le
  have hy := hy0.mono hs.le
  have htl : (x ++ (y.take k).map (shiftN x.length)).length = x.length + k := by rw [List.length_append, List.length_map, List.length_take]; omega
  refine T_seq (T_seq (T_region rfl ?_))
  refine O_m rfl ?_
  refine O_m rfl ?_
  refine O_y hs (Y_len Tryz.underlying24 rfl ?_)
  refine O_y hs (Y_cmpS rfl rfl rfl (fun h29 => ?_) (fun h29 => ?_))
  ·
   dsimp only [cmpP] at h29
   refine O_nil (T_kp [0, 1, 2, 7, 9, 29] rfl ?_)
   refine T_condT rfl (T_skip ?_)
   refine T_seq (T_block (T_seq (T_region rfl ?_)))
   refine O_m rfl ?_
   refine O_m rfl ?_
   refine O_y hs (Y_idxS hy k Tryz.underlying24 Tryz.sizeOf42 rfl rfl rfl (by omega) fun p34 c34 hp34 hc34 hR34 => ?_)
   have hrn := hr y[k] (List.getElem_mem _)
   obtain ⟨rfl, hco34⟩ := hR34
   obtain ⟨nk, hnk⟩ : ∃ n, n = y[k] := ⟨_, rfl⟩
   rw [← hnk] at hp34 hco34 hrn
   have htk : y.take (k + 1) = y.take k ++ [nk] := by rw [List.take_add_one, List.getElem?_eq_getElem (by omega), hnk]; rfl
   obtain ⟨kd, cc, ll, rr, mn, mx⟩ := nk
   obtain ⟨c0, c1, c2, c3, rfl⟩ := four_of hco34.1
   dsimp only at hrn
   have ha3 := arF_three kd
   refine O_y hs (Y_ldAG (vs := [.int .i64 kd, u64V c0, u64V c1, u64V c2, u64V c3, .int .i64 ll, .int .i64 rr, .int .i64 mn, .int .i64 mx]) Tryz.isAgg42 Tryz.sizeOf42 rfl hp34 rfl ?_)
   refine O_s (S_alloc hs Tryz.zeroValue42 (cs := [_, _, _, _, _, _, _, _, _]) rfl fun b10 _ hs => ?_)
   refine O_n (S_stA hs Tryz.sizeOf42 rfl rfl (vs := [_, _, _, _, _, _, _, _, _]) rfl (rfl) (by simp) (cs' := [_, _, _, _, _, _, _, _, _]) rfl fun _ hs => ?_)
   refine O_nil (T_kp [0, 1, 2, 7, 9, 10] rfl ?_)
   refine T_seq (T_region rfl ?_)
   refine O_y hs (Y_fieldAddr FO42_0 rfl (m := 0) rfl ?_)
   refine O_y hs (Y_ld 0 Tryz.isAgg3 rfl rfl rfl ?_)
   refine O_s (S_call (H1 := []) hs rfl Tryz.func41 rfl (by kernel_rfl) (rops_ok) fun v4 G' H' _ hR hG38 hs => ?_)
   obtain ⟨rfl, rfl⟩ := hR
   replace hs : St _ _ [_, _] _ := hs
   replace hx := hx.mono hG38
   replace hy := hy.mono hG38
   refine O_a rfl ?_
   refine O_nil (T_kp [0, 1, 2, 7, 9, 10, 11] rfl ?_)
   refine T_seq (T_seq (T_region rfl ?_))
   refine O_m rfl ?_
   refine O_y hs (Y_cmpS rfl rfl rfl (fun h40 => ?_) (fun h40 => ?_))
   ·
    dsimp only [cmpP] at h40
    refine O_nil (T_kp [0, 1, 2, 7, 9, 10, 11, 40] rfl ?_)
    refine T_condT rfl (T_region rfl ?_)
    refine O_y hs (Y_fieldAddr FO42_2 rfl (m := 5) rfl ?_)
    refine O_y hs (Y_ld 0 Tryz.isAgg3 rfl rfl rfl ?_)
    refine O_m rfl ?_
    refine O_y hs (Y_len Tryz.underlying24 rfl ?_)
    refine O_y hs (Y_add (c := (ll + (x.length : Int))) rfl rfl (by omega) (by omega) ?_)
    refine O_y hs (Y_fieldAddr FO42_2 rfl (m := 5) rfl ?_)
    refine O_n (S_st hs Tryz.sizeOf3 rfl rfl rfl (by simp) (cs' := [_, _, _, _, _, _, _, _, _]) rfl fun _ hs => ?_)
    refine O_nil (T_kp [0, 1, 2, 7, 9, 10, 11] rfl ?_)
    refine T_seq (T_seq (T_region rfl ?_))
    refine O_m rfl ?_
    refine O_y hs (Y_cmpS rfl rfl rfl (fun h48 => ?_) (fun h48 => ?_))
    ·
     dsimp only [cmpP] at h48
     refine O_nil (T_kp [0, 1, 2, 7, 9, 10, 48] rfl ?_)
     refine T_condT rfl (T_region rfl ?_)
     refine O_y hs (Y_fieldAddr FO42_3 rfl (m := 6) rfl ?_)
     refine O_y hs (Y_ld 0 Tryz.isAgg3 rfl rfl rfl ?_)
     refine O_m rfl ?_
     refine O_y hs (Y_len Tryz.underlying24 rfl ?_)
     refine O_y hs (Y_add (c := (rr + (x.length : Int))) rfl rfl (by omega) (by omega) ?_)
     refine O_y hs (Y_fieldAddr FO42_3 rfl (m := 6) rfl ?_)
     refine O_n (S_st hs Tryz.sizeOf3 rfl rfl rfl (by simp) (cs' := [_, _, _, _, _, _, _, _, _]) rfl fun _ hs => ?_)
     refine O_nil (T_kp [0, 1, 2, 7, 9, 10] rfl ?_)
     refine T_region rfl ?_
     refine O_m rfl ?_
     refine O_y hs (Y_ldA 0 Tryz.isAgg42 Tryz.sizeOf42 rfl rfl (vs := [_, _, _, _, _, _, _, _, _]) rfl rfl ?_)
     refine O_s (S_lit hs Tryz.underlying24 Tryz.sizeOf42 Tryz.zeroValue42 rfl rfl (by decide) (by decide) rfl (cs := [_, _, _, _, _, _, _, _, _]) rfl rfl fun v5 _ hs _ => ?_)
     obtain ⟨_, hG57, hl57, hs⟩ := hs.fixRow noM
     replace hx := hx.mono hG57
     replace hy := hy.mono hG57
     have hs := hs.f1
     refine O_s (S_append hs Tryz.underlying24 TI42 rfl (by decide) rfl rfl (hl57) (nine1 rfl rfl rfl rfl rfl rfl rfl rfl rfl) (by omega) (by omega) fun v6 _ hs => ?_)
     refine O_a rfl ?_
     refine O_nil (T_kp [0, 1, 2, 7, 9] rfl ?_)
     refine T_region rfl ?_
     refine O_m rfl ?_
     refine O_y hs (Y_add (c := ((k + 1 : Nat) : Int)) rfl rfl (by omega) (by omega) ?_)
     refine O_a rfl ?_
     have hsh : shiftN x.length ⟨kd, [c0, c1, c2, c3], ll, rr, mn, mx⟩ = ⟨kd, [c0, c1, c2, c3], ll + (x.length : Int), rr + (x.length : Int), mn, mx⟩ := by unfold shiftN; rw [if_pos (by dsimp only; omega), if_pos (by dsimp only; omega)]
     refine O_nil ⟨_, ?_, [(0, _), (1, _), (2, _), (7, _), (9, _)], ⟨rfl, rfl, rfl, rfl, rfl, trivial⟩, ⟨k + 1, v6, _, by omega, rfl, rfl, by rw [htk, List.map_append, List.map_cons, List.map_nil, hsh, ← List.append_assoc, flat_emit, List.length_append (bs := [_])]; exact hs.weak hs.le (Ghost.le.refl _) (List.sublist_append_left [_] _)⟩⟩
     omega
    ·
     dsimp only [cmpP] at h48
     refine O_nil (T_kp [0, 1, 2, 7, 9, 10, 48] rfl ?_)
     refine T_condF rfl (T_skip ?_)
     refine T_region rfl ?_
     refine O_m rfl ?_
     refine O_y hs (Y_ldA 0 Tryz.isAgg42 Tryz.sizeOf42 rfl rfl (vs := [_, _, _, _, _, _, _, _, _]) rfl rfl ?_)
     refine O_s (S_lit hs Tryz.underlying24 Tryz.sizeOf42 Tryz.zeroValue42 rfl rfl (by decide) (by decide) rfl (cs := [_, _, _, _, _, _, _, _, _]) rfl rfl fun v7 _ hs _ => ?_)
     obtain ⟨_, hG57, hl57, hs⟩ := hs.fixRow noM
     replace hx := hx.mono hG57
     replace hy := hy.mono hG57
     have hs := hs.f1
     refine O_s (S_append hs Tryz.underlying24 TI42 rfl (by decide) rfl rfl (hl57) (nine1 rfl rfl rfl rfl rfl rfl rfl rfl rfl) (by omega) (by omega) fun v8 _ hs => ?_)
     refine O_a rfl ?_
     refine O_nil (T_kp [0, 1, 2, 7, 9] rfl ?_)
     refine T_region rfl ?_
     refine O_m rfl ?_
     refine O_y hs (Y_add (c := ((k + 1 : Nat) : Int)) rfl rfl (by omega) (by omega) ?_)
     refine O_a rfl ?_
     have hsh : shiftN x.length ⟨kd, [c0, c1, c2, c3], ll, rr, mn, mx⟩ = ⟨kd, [c0, c1, c2, c3], ll + (x.length : Int), rr, mn, mx⟩ := by unfold shiftN; rw [if_pos (by dsimp only; omega), if_neg (by dsimp only; omega)]
     refine O_nil ⟨_, ?_, [(0, _), (1, _), (2, _), (7, _), (9, _)], ⟨rfl, rfl, rfl, rfl, rfl, trivial⟩, ⟨k + 1, v8, _, by omega, rfl, rfl, by rw [htk, List.map_append, List.map_cons, List.map_nil, hsh, ← List.append_assoc, flat_emit, List.length_append (bs := [_])]; exact hs.weak hs.le (Ghost.le.refl _) (List.sublist_append_left [_] _)⟩⟩
     omega
   ·
    dsimp only [cmpP] at h40
    refine O_nil (T_kp [0, 1, 2, 7, 9, 10, 11, 40] rfl ?_)
    refine T_condF rfl (T_skip ?_)
    refine T_seq (T_seq (T_region rfl ?_))
    refine O_m rfl ?_
    refine O_y hs (Y_cmpF rfl rfl rfl (by omega) ?_)
    refine O_nil (T_kp [0, 1, 2, 7, 9, 10, 48] rfl ?_)
    refine T_condF rfl (T_skip ?_)
    refine T_region rfl ?_
    refine O_m rfl ?_
    refine O_y hs (Y_ldA 0 Tryz.isAgg42 Tryz.sizeOf42 rfl rfl (vs := [_, _, _, _, _, _, _, _, _]) rfl rfl ?_)
    refine O_s (S_lit hs Tryz.underlying24 Tryz.sizeOf42 Tryz.zeroValue42 rfl rfl (by decide) (by decide) rfl (cs := [_, _, _, _, _, _, _, _, _]) rfl rfl fun v9 _ hs _ => ?_)
    obtain ⟨_, hG57, hl57, hs⟩ := hs.fixRow noM
    replace hx := hx.mono hG57
    replace hy := hy.mono hG57
    have hs := hs.f1
    refine O_s (S_append hs Tryz.underlying24 TI42 rfl (by decide) rfl rfl (hl57) (nine1 rfl rfl rfl rfl rfl rfl rfl rfl rfl) (by omega) (by omega) fun v10 _ hs => ?_)
    refine O_a rfl ?_
    refine O_nil (T_kp [0, 1, 2, 7, 9] rfl ?_)
    refine T_region rfl ?_
    refine O_m rfl ?_
    refine O_y hs (Y_add (c := ((k + 1 : Nat) : Int)) rfl rfl (by omega) (by omega) ?_)
    refine O_a rfl ?_
    have hsh : shiftN x.length ⟨kd, [c0, c1, c2, c3], ll, rr, mn, mx⟩ = ⟨kd, [c0, c1, c2, c3], ll, rr, mn, mx⟩ := by unfold shiftN; rw [if_neg (by dsimp only; omega), if_neg (by dsimp only; omega)]
    refine O_nil ⟨_, ?_, [(0, _), (1, _), (2, _), (7, _), (9, _)], ⟨rfl, rfl, rfl, rfl, rfl, trivial⟩, ⟨k + 1, v10, _, by omega, rfl, rfl, by rw [htk, List.map_append, List.map_cons, List.map_nil, hsh, ← List.append_assoc, flat_emit, List.length_append (bs := [_])]; exact hs.weak hs.le (Ghost.le.refl _) (List.sublist_append_left [_] _)⟩⟩
    omega
  ·
   dsimp only [cmpP] at h29
   refine O_nil (T_kp [0, 1, 2, 7, 9, 29] rfl ?_)
   refine T_condF rfl (T_exit ?_)
   obtain rfl : k = y.length := by omega
   rw [List.take_length] at hs
   have hty : (x ++ y.map (shiftN x.length)).length = x.length + y.length := by rw [List.length_append, List.length_map]
   refine T_seq (T_region rfl ?_)
   refine O_m rfl ?_
   refine O_m rfl ?_
   refine O_m rfl ?_
   refine O_y hs (Y_len Tryz.underlying24 rfl ?_)
   refine O_y hs (Y_sub (c := ((x.length : Int) - 1)) rfl rfl (by omega) (by omega) ?_)
   refine O_m rfl ?_
   refine O_y hs (Y_lenOwn 0 rfl Tryz.underlying24 rfl hs ?_)
   refine O_y hs (Y_sub (c := (((x.length + y.length : Nat) : Int) - 1)) rfl rfl (by omega) (by omega) ?_)
   refine O_y hs (Y_build Tryz.zeroValue42 rfl PL42 rfl (cs := [_, _, _, _, _, _, _, _, _]) rfl ?_)
   refine O_s (S_lit hs Tryz.underlying24 Tryz.sizeOf42 Tryz.zeroValue42 rfl rfl (by decide) (by decide) rfl (cs := [_, _, _, _, _, _, _, _, _]) rfl rfl fun v11 _ hs _ => ?_)
   obtain ⟨_, hG68, hl68, hs⟩ := hs.fixRow noM
   replace hx := hx.mono hG68
   replace hy := hy.mono hG68
   refine O_s (S_append hs Tryz.underlying24 TI42 rfl (by decide) rfl rfl (hl68) (nine1 rfl rfl rfl rfl rfl rfl rfl rfl rfl) (by omega) (by omega) fun v12 _ hs => ?_)
   refine O_a rfl ?_
   refine O_nil (T_kp [6] rfl ?_)
   refine T_ret ?_
   refine Rt_fin (vs := [_]) Tryz.results20 rfl ⟨rfl, trivial⟩ ?_
   try dsimp only [tup]
   exact ⟨_, _, hs, by unfold binF; rw [flat_emit _ (binN kk ((x.length : Int) - 1) (((x.length + y.length : Nat) : Int) - 1)), List.length_append (bs := [_])]; rfl⟩

theorem FnOk_fix {P : Program} {f : FuncId} {args : List Value} {G : Ghost} {e k n : Nat} {xs : List Value} (h : FnOk P f args G [] fun r _ H' => H' = [.row e k r n xs]) : FnOk P f args G [] fun r G' H' => H' = [] ∧ Sl G' r k n xs := fun w hw =>
  (h w hw).mono fun e w' he => by
    obtain ⟨r, G1, H1, he, hs, rfl⟩ := he
    obtain ⟨G2, _, hsl, hs2⟩ := hs.fixRow noM
    exact ⟨r, G2, [], he, hs2, rfl, hsl⟩
theorem FnOk_rx {P : Program} {f : FuncId} {args : List Value} {G : Ghost} {e : Nat} {ns : List NodeV} (hc : ∀ n ∈ ns, ClsOk n.c) (h : FnOk P f args G [] fun r _ H' => H' = [.row e 9 r ns.length (ns.flatMap nodeC)]) : FnOk P f args G [] fun r G' H' => H' = [] ∧ Rx G' r ns := fun w hw =>
  (FnOk_fix h w hw).mono fun e w' he => by
    obtain ⟨r, G1, H1, he, hs, h0, hsl⟩ := he
    exact ⟨r, G1, H1, he, hs, h0, rx_of hsl hc⟩
theorem rbin_ok {G : Ghost} {v w : Value} {kk : Int} {x y : List NodeV} (hx : Rx G v x) (hy : Rx G w y) (hlx : x.length ≤ 10000000) (hly : y.length ≤ 10000000) (hr : ∀ m ∈ y, -1000000000 ≤ m.l ∧ m.l ≤ 1000000000 ∧ -1000000000 ≤ m.r ∧ m.r ≤ 1000000000) :
    FnOk Tryz.prog 20 [.int .i64 kk, v, w] G [] fun r G' H' => H' = [] ∧ Rx G' r (binF kk x y) := FnOk_rx (binF_cls (rx_cls hx) (rx_cls hy)) (rbin_row hx hy hlx hly hr)


def StkV (G : Ghost) (us : List Value) (st : List (List NodeV)) : Prop := All2 (fun u l => Rx G u l) us st
theorem StkV.mono {G G' : Ghost} (h : G.le G') {us : List Value} {st : List (List NodeV)} (hs : StkV G us st) : StkV G' us st := All2.mono (fun _ _ hx => Rx.mono h hx) hs
theorem StkV.push {G : Ghost} {us : List Value} {st : List (List NodeV)} {u : Value} {l : List NodeV} (h : StkV G us st) (hu : Rx G u l) : StkV G (us ++ [u]) (st ++ [l]) := All2.snoc h hu
theorem all2_one {G : Ghost} : ∀ {us : List Value} {st : List (List NodeV)}, StkV G us st → All2 (RxR G) (us.map fun u => [u]) st
  | [], [], _ => trivial
  | _ :: _, _ :: _, h => ⟨⟨_, rfl, h.1⟩, all2_one h.2⟩
  | [], _ :: _, h => h.elim
  | _ :: _, [], h => h.elim
theorem flat_one (us : List Value) : (us.map fun u => [u]).flatten = us := by induction us with | nil => rfl | cons u us ih => rw [List.map_cons, List.flatten_cons, ih]; rfl
theorem Stk.of {G : Ghost} {v : Value} {n : Nat} {us : List Value} {st : List (List NodeV)} (h : Sl G v 1 n us) (hn : n = us.length) (hs : StkV G us st) : Stk G v st :=
  LstR.ofSl h (flat_one us).symm (hn.trans (All2.length hs)) (all2_one hs) (fun c hm => by obtain ⟨u, _, rfl⟩ := List.mem_map.1 hm; rfl)
theorem gcell_0 {G : Ghost} {p : Addr} {u : Value} (h : gcell G (p.add 0) = some u) : gcell G p = some u := by
  have : p.add 0 = p := by
    obtain ⟨b, i, q⟩ := p
    unfold Addr.add; rw [if_pos rfl]
  rwa [this] at h


set_option maxHeartbeats 1000000 in
set_option maxRecDepth 10000 in
theorem rstk_ok {G : Ghost} {v u : Value} {st : List (List NodeV)} {l : List NodeV} {n : Nat} (hst : Stk G v st) (hu : Rx G u l) (hn : n ≤ st.length) (hb : st.length ≤ 10000000) :
  FnOk Tryz.prog 54 [v, .int .i64 (n : Int), u] G [] fun r G' H' => H' = [] ∧ Stk G' r (st.take n ++ [l]) := by
 obtain ⟨A, cap, rfl⟩ := LstR.slice hst
 obtain ⟨Au, cu, rfl⟩ := LstR.slice hu
 refine FnOk.of_T [(0, _), (1, _), (2, _)] Tryz.func54 rfl Tryz.ntmps54 (by simp) rfl fun w0 hs => ?_
 have hst0 := hst
 have hu0 := hu
 refine T_seq (T_region rfl ?_)
 refine O_a rfl ?_
 refine O_nil (T_kp [0, 1, 2] rfl ?_)
 refine T_seq (T_region rfl ?_)
 refine O_s (S_lit hs Tryz.underlying63 Tryz.sizeOf24 Tryz.zeroValue24 rfl rfl (by decide) (by decide) rfl (cs := []) rfl rfl fun v1 _ hs _ => ?_)
 refine O_a rfl ?_
 refine O_nil (T_kp [0, 1, 2, 7] rfl ?_)
 refine T_seq (T_seq (T_region rfl ?_))
 refine O_a rfl ?_
 refine O_nil (T_kp [0, 1, 2, 7, 8] rfl ?_)
 refine T_block (T_loop (fun m E w => ∃ (k : Nat) (us : List Value) (v1 : Value) (G' : Ghost), k ≤ n ∧ StkV G' us (st.take k) ∧ m = n - k ∧ E = ⟨[], [(0, (.slice A st.length cap)), (1, .int .i64 (n : Int)), (2, (.slice Au l.length cu)), (7, v1), (8, .int .i64 (k : Int))]⟩ ∧ St ⟨w0, G, feet []⟩ G' [.row 24 1 v1 us.length us] w) (L := [(0, _), (1, _), (2, _), (7, _), (8, _)]) ⟨rfl, rfl, rfl, rfl, rfl, trivial⟩ (⟨0, [], _, _, by omega, trivial, rfl, rfl, hs⟩) fun m E w hI => ?_)
 obtain ⟨k, us, v1, G', hk, hus, rfl, rfl, hs⟩ := hI
 have hst := hst0.mono hs.le
 have hu := hu0.mono hs.le
 have hul := All2.length hus
 rw [List.length_take] at hul
 refine T_seq (T_seq (T_region rfl ?_))
 refine O_m rfl ?_
 refine O_m rfl ?_
 refine O_y hs (Y_cmpS rfl rfl rfl (fun h12 => ?_) (fun h12 => ?_))
 ·
  dsimp only [cmpP] at h12
  refine O_nil (T_kp [0, 1, 2, 7, 8, 12] rfl ?_)
  refine T_condT rfl (T_skip ?_)
  refine T_seq (T_block (T_region rfl ?_))
  refine O_m rfl ?_
  refine O_m rfl ?_
  refine O_m rfl ?_
  refine O_y hs (Y_idxS hst k Tryz.underlying63 Tryz.sizeOf24 rfl rfl rfl (by omega) fun p18 c18 hp18 hc18 hR18 => ?_)
  obtain ⟨u18, rfl, hx18⟩ := hR18
  obtain ⟨A18, q18, rfl⟩ := LstR.slice hx18
  refine O_y hs (Y_ldG Tryz.isAgg24 rfl (gcell_0 (hp18 0 _ rfl)) ?_)
  refine O_s (S_lit hs Tryz.underlying63 Tryz.sizeOf24 Tryz.zeroValue24 rfl rfl (by decide) (by decide) rfl (cs := [_]) rfl rfl fun v2 _ hs _ => ?_)
  obtain ⟨_, hG20, hl20, hs⟩ := hs.fixRow noM
  replace hst := hst.mono hG20
  replace hu := hu.mono hG20
  replace hus := hus.mono hG20
  replace hx18 := hx18.mono hG20
  refine O_s (S_append hs Tryz.underlying63 TI24 rfl (by decide) rfl rfl (hl20) (one1 rfl) (by omega) (by omega) fun v3 _ hs => ?_)
  refine O_a rfl ?_
  refine O_nil (T_kp [0, 1, 2, 7, 8] rfl ?_)
  refine T_region rfl ?_
  refine O_m rfl ?_
  refine O_y hs (Y_add (c := ((k + 1 : Nat) : Int)) rfl rfl (by omega) (by omega) ?_)
  refine O_a rfl ?_
  refine O_nil ⟨_, ?_, [(0, _), (1, _), (2, _), (7, _), (8, _)], ⟨rfl, rfl, rfl, rfl, rfl, trivial⟩, ⟨k + 1, us ++ [_], v3, _, by omega, by rw [List.take_add_one, List.getElem?_eq_getElem (by omega)]; exact hus.push hx18, rfl, rfl, by rw [List.length_append]; exact hs⟩⟩
  omega
 ·
  dsimp only [cmpP] at h12
  refine O_nil (T_kp [0, 1, 2, 7, 8, 12] rfl ?_)
  refine T_condF rfl (T_exit ?_)
  obtain rfl : k = n := by omega
  refine T_seq (T_region rfl ?_)
  refine O_m rfl ?_
  refine O_m rfl ?_
  refine O_s (S_lit hs Tryz.underlying63 Tryz.sizeOf24 Tryz.zeroValue24 rfl rfl (by decide) (by decide) rfl (cs := [_]) rfl rfl fun v4 _ hs _ => ?_)
  obtain ⟨_, hG24, hl24, hs⟩ := hs.fixRow noM
  replace hst := hst.mono hG24
  replace hu := hu.mono hG24
  replace hus := hus.mono hG24
  refine O_s (S_append hs Tryz.underlying63 TI24 rfl (by decide) rfl rfl (hl24) (one1 rfl) (by omega) (by omega) fun v5 _ hs => ?_)
  refine O_a rfl ?_
  refine O_nil (T_kp [6] rfl ?_)
  refine T_ret ?_
  refine Rt_fin (vs := [_]) Tryz.results54 rfl ⟨rfl, trivial⟩ ?_
  try dsimp only [tup]
  obtain ⟨_, hGf, hf, hs⟩ := hs.fixRow noM
  exact ⟨_, [], hs.done, rfl, Stk.of hf (by rw [List.length_append]; rfl) ((hus.push hu).mono hGf)⟩

set_option maxHeartbeats 400000 in
set_option maxRecDepth 10000 in
theorem rone_ok {G : Ghost} {x : UInt8} :
  FnOk Tryz.prog 73 [.int .u8 (x.toNat : Int)] G [] fun r _ H' => H' = [] ∧ r = ClsV (addF noC x) := by
 have hal : (addF noC x).length = 4 := addF_len noC x
 have hx := x.toNat_lt
 refine FnOk.of_T [(0, _)] Tryz.func73 rfl Tryz.ntmps73 (by simp) rfl fun w0 hs => ?_
 refine T_seq (T_region rfl ?_)
 refine O_s (S_alloc hs Tryz.zeroValue40 (cs := (List.map u64V [0, 0, 0, 0])) rfl fun b2 _ hs => ?_)
 refine O_nil (T_kp [0, 2] rfl ?_)
 refine T_seq (T_region rfl ?_)
 refine O_y hs (Y_buildA Tryz.underlying40 Tryz.sizeOf38 Tryz.zeroValue40 rfl rfl (cs := [_, _, _, _]) rfl ?_)
 refine O_m rfl ?_
 refine O_s (S_call (H1 := []) hs rfl Tryz.func30 rfl (by kernel_rfl) (radd_ok (c := noC) (x := x) rfl) fun v1 G' H' _ hR hG5 hs => ?_)
 obtain ⟨rfl, rfl⟩ := hR
 replace hs : St _ _ [_] _ := hs
 refine O_n (S_stW hs Tryz.sizeOf40 rfl rfl (vs := (List.map u64V (addF noC x))) (by first | omega | (simp; omega) | simp) (by first | omega | (simp; omega) | simp) (u64_all _) fun _ hs => ?_)
 refine O_nil (T_kp [2] rfl ?_)
 refine T_ret ?_
 have hr := hs
 refine Rt_fin (vs := [_]) Tryz.results73 rfl ⟨ResOk_blk 0 hr Tryz.isAgg40 Tryz.sizeOf40 rfl (cs := (List.map u64V (addF noC x))) rfl (by first | omega | (simp; omega) | simp), trivial⟩ ?_
 try dsimp only [tup]
 exact ⟨_, [], hs.done, rfl, rfl⟩

def letC (i : Nat) : UInt8 := UInt8.ofNat (97 + i)
theorem letC_int {i : Nat} (h : i < 100) : IntKind.u8.wrap ((97 + i : Nat) : Int) = ((letC i).toNat : Int) := by unfold letC; rw [IntKind.wrap_u8, UInt8.toNat_ofNat']; omega
def allC : List Nat := [18446744073709551615, 18446744073709551615, 18446744073709551615, 18446744073709551615]
def bitsC (a : Nat) : Nat → List Nat
  | 0 => noC
  | i + 1 => if a / 2 ^ i % 2 = 1 then addF (bitsC a i) (letC i) else bitsC a i
theorem bitsC_len (a : Nat) : ∀ i, (bitsC a i).length = 4
  | 0 => rfl
  | i + 1 => by rw [bitsC]; split
                · rw [addF_len, bitsC_len a i]
                · exact bitsC_len a i
theorem bitsC_t {a i : Nat} (h : a / 2 ^ i % 2 = 1) : bitsC a (i + 1) = addF (bitsC a i) (letC i) := by rw [bitsC, if_pos h]
theorem bitsC_f {a i : Nat} (h : ¬ a / 2 ^ i % 2 = 1) : bitsC a (i + 1) = bitsC a i := by rw [bitsC, if_neg h]
def leafC (a : Nat) : List Nat := if 8 ≤ a then notF (bitsC a 3) else bitsC a 3
def leafF (k a : Nat) : NodeV := if k = 0 then leafN 1 noC else if k = 1 then leafN 2 noC else if k ≠ 3 then leafN 3 (addF noC (letC (a % 3))) else leafN 3 (leafC a)
theorem leaf_short : ∀ a : Fin 19, (classT (membF (leafC a.val))).length ≤ 40 ∧ ∀ x ∈ leafC a.val, x < W64 := by unfold W64; decide +kernel
theorem one_short : ∀ a : Fin 3, (classT (membF (addF noC (letC a.val)))).length ≤ 40 := by decide +kernel
theorem leafC_len (a : Nat) : (leafC a).length = 4 := by unfold leafC; split; exact notF_len (bitsC_len a 3); exact bitsC_len a 3
theorem leaf_tree {k a : Nat} (ha : a < 19) : IsTree [leafF k a] := by
  unfold leafF
  by_cases h0 : k = 0
  · rw [if_pos h0]; exact .leaf (.inl ⟨rfl, rfl⟩)
  rw [if_neg h0]
  by_cases h1 : k = 1
  · rw [if_pos h1]; exact .leaf (.inr (.inl ⟨rfl, rfl⟩))
  rw [if_neg h1]
  by_cases h3 : k ≠ 3
  · rw [if_pos h3]; exact .leaf (.inr (.inr ⟨rfl, addF_ok noC_ok _, one_short ⟨a % 3, by omega⟩⟩))
  · rw [if_neg h3]; exact .leaf (.inr (.inr ⟨rfl, ⟨leafC_len a, (leaf_short ⟨a, ha⟩).2⟩, (leaf_short ⟨a, ha⟩).1⟩))
def mixC (c : List Nat) (i : Nat) : List Nat := (notF c).take i ++ c.drop i
theorem mixC_len {c : List Nat} (hc : c.length = 4) {i : Nat} (hi : i ≤ 4) : (mixC c i).length = 4 := by unfold mixC; rw [List.length_append, List.length_take, List.length_drop, notF_len hc]; omega
theorem mixC_set {c : List Nat} (hc : c.length = 4) {i : Nat} (hi : i < 4) : ((mixC c i).map u64V).set i (u64V (xor64 18446744073709551615 (c.getD i 0))) = (mixC c (i + 1)).map u64V := by
  obtain ⟨a, b, d, e, rfl⟩ := four_of hc
  rcases (by omega : i = 0 ∨ i = 1 ∨ i = 2 ∨ i = 3) with rfl | rfl | rfl | rfl <;> rfl
theorem mixC_get {c : List Nat} (hc : c.length = 4) {i : Nat} (hi : i < 4) : ((mixC c i).map u64V)[i]? = some (u64V (c.getD i 0)) := by
  obtain ⟨a, b, d, e, rfl⟩ := four_of hc
  rcases (by omega : i = 0 ∨ i = 1 ∨ i = 2 ∨ i = 3) with rfl | rfl | rfl | rfl <;> rfl
theorem allC_get {i : Nat} (hi : i < 4) : (allC.map u64V)[i]? = some (u64V 18446744073709551615) := by
  rcases (by omega : i = 0 ∨ i = 1 ∨ i = 2 ∨ i = 3) with rfl | rfl | rfl | rfl <;> rfl
theorem Y_xor64 {x : Cx} {W : World → Prop} {E : Env} {K : Value → Prop} {d : Option Tmp} {ty xt yt : TypeId} {pos : String} {aft : Array Edge} {g : Option (Nat × Bool)} {o p : Operand} {a b : Nat} (h1 : ev E o = some (u64V a)) (h2 : ev E p = some (u64V b)) (k : K (u64V (xor64 a b))) : Y x W ⟨d, .binOp .xor xt o p yt, ty, pos, aft, g⟩ E K :=
  Y_bits h1 h2 (by simp) (bits_xor a b) k
theorem mixC_4 {c : List Nat} (hc : c.length = 4) : mixC c 4 = notF c := by unfold mixC; rw [List.take_of_length_le (by rw [notF_len hc]; omega), List.drop_of_length_le (by omega), List.append_nil]


set_option maxHeartbeats 400000 in
set_option maxRecDepth 10000 in
theorem rall_ok {G : Ghost} :
  FnOk Tryz.prog 74 [] G [] fun r _ H' => H' = [] ∧ r = ClsV allC := by
 refine FnOk.of_T [] Tryz.func74 rfl Tryz.ntmps74 (by simp) rfl fun w0 hs => ?_
 refine T_seq (T_region rfl ?_)
 refine O_s (S_alloc hs Tryz.zeroValue40 (cs := [_, _, _, _]) rfl fun b0 _ hs => ?_)
 refine O_nil (T_kp [0] rfl ?_)
 refine T_seq (T_region rfl ?_)
 refine O_y hs (Y_buildA Tryz.underlying40 Tryz.sizeOf38 Tryz.zeroValue40 rfl rfl (cs := [_, _, _, _]) rfl ?_)
 refine O_n (S_stA hs Tryz.sizeOf40 rfl rfl (vs := [_, _, _, _]) rfl (rfl) (by simp) (cs' := [_, _, _, _]) rfl fun _ hs => ?_)
 refine O_nil (T_kp [0] rfl ?_)
 refine T_ret ?_
 have hr := hs
 refine Rt_fin (vs := [_]) Tryz.results74 rfl ⟨ResOk_blk 0 hr Tryz.isAgg40 Tryz.sizeOf40 rfl (cs := [_, _, _, _]) rfl rfl, trivial⟩ ?_
 try dsimp only [tup]
 exact ⟨_, [], hs.done, rfl, rfl⟩

set_option maxHeartbeats 2000000 in
set_option maxRecDepth 10000 in
theorem leaf_ok {G : Ghost} {k a : Nat} (hk : k ≤ 13) (ha : a < 19) :
  FnOk Tryz.prog 55 [.int .i64 (k : Int), .int .i64 (a : Int)] G [] fun r _ H' => H' = [] ∧ r = .agg (nodeC (leafF k a)).toArray := by
 have hbl := bitsC_len a 3
 have hn4 : noC.length = 4 := rfl
 have ha4 : allC.length = 4 := rfl
 refine FnOk.of_T [(0, _), (1, _)] Tryz.func55 rfl Tryz.ntmps55 (by simp) rfl fun w0 hs => ?_
 refine T_seq (T_region rfl ?_)
 refine O_s (S_alloc hs Tryz.zeroValue42 (cs := [_, _, _, _, _, _, _, _, _]) rfl fun b4 _ hs => ?_)
 refine O_nil (T_kp [0, 1, 4] rfl ?_)
 refine T_seq (T_seq (T_region rfl ?_))
 refine O_m rfl ?_
 refine O_y hs (Y_cmpS rfl rfl rfl (fun h10 => ?_) (fun h10 => ?_))
 ·
  dsimp only [cmpP] at h10
  refine O_nil (T_kp [0, 1, 4, 10] rfl ?_)
  refine T_condT rfl (T_seq (T_region rfl ?_))
  refine O_y hs (Y_build Tryz.zeroValue42 rfl PL42 rfl (cs := [_, _, _, _, _, _, _, _, _]) rfl ?_)
  refine O_n (S_stA hs Tryz.sizeOf42 rfl rfl (vs := [_, _, _, _, _, _, _, _, _]) rfl (rfl) (by simp) (cs' := [_, _, _, _, _, _, _, _, _]) rfl fun _ hs => ?_)
  refine O_nil (T_kp [4] rfl ?_)
  refine T_ret ?_
  have hr := hs
  refine Rt_fin (vs := [_]) Tryz.results55 rfl ⟨ResOk_blk 0 hr Tryz.isAgg42 Tryz.sizeOf42 rfl (cs := [_, _, _, _, _, _, _, _, _]) rfl rfl, trivial⟩ ?_
  try dsimp only [tup]
  exact ⟨_, [], hs.done, rfl, by unfold leafF; rw [if_pos (by omega)]; rfl⟩
 ·
  dsimp only [cmpP] at h10
  refine O_nil (T_kp [0, 1, 4, 10] rfl ?_)
  refine T_condF rfl (T_skip ?_)
  refine T_seq (T_seq (T_region rfl ?_))
  refine O_m rfl ?_
  refine O_y hs (Y_cmpS rfl rfl rfl (fun h13 => ?_) (fun h13 => ?_))
  ·
   dsimp only [cmpP] at h13
   refine O_nil (T_kp [0, 1, 4, 13] rfl ?_)
   refine T_condT rfl (T_seq (T_region rfl ?_))
   refine O_y hs (Y_build Tryz.zeroValue42 rfl PL42 rfl (cs := [_, _, _, _, _, _, _, _, _]) rfl ?_)
   refine O_n (S_stA hs Tryz.sizeOf42 rfl rfl (vs := [_, _, _, _, _, _, _, _, _]) rfl (rfl) (by simp) (cs' := [_, _, _, _, _, _, _, _, _]) rfl fun _ hs => ?_)
   refine O_nil (T_kp [4] rfl ?_)
   refine T_ret ?_
   have hr := hs
   refine Rt_fin (vs := [_]) Tryz.results55 rfl ⟨ResOk_blk 0 hr Tryz.isAgg42 Tryz.sizeOf42 rfl (cs := [_, _, _, _, _, _, _, _, _]) rfl rfl, trivial⟩ ?_
   try dsimp only [tup]
   exact ⟨_, [], hs.done, rfl, by unfold leafF; rw [if_neg (by omega), if_pos (by omega)]; rfl⟩
  ·
   dsimp only [cmpP] at h13
   refine O_nil (T_kp [0, 1, 4, 13] rfl ?_)
   refine T_condF rfl (T_skip ?_)
   refine T_seq (T_seq (T_region rfl ?_))
   refine O_m rfl ?_
   refine O_y hs (Y_cmpS rfl rfl rfl (fun h16 => ?_) (fun h16 => ?_))
   ·
    dsimp only [cmpP] at h16
    refine O_nil (T_kp [1, 4, 16] rfl ?_)
    refine T_condT rfl (T_seq (T_region rfl ?_))
    refine O_m rfl ?_
    refine O_y hs (Y_rem (c := ((a % 3 : Nat) : Int)) rfl rfl (by omega) (by omega) (by omega) ?_)
    refine O_y hs (Y_add (c := ((97 + a % 3 : Nat) : Int)) rfl rfl (by omega) (by omega) ?_)
    refine O_y hs (Y_conv Tryz.underlying3 Tryz.underlying5 (c := ((letC (a % 3)).toNat : Int)) rfl (letC_int (by omega)) ?_)
    refine O_s (S_call (H1 := []) hs rfl Tryz.func73 rfl (by kernel_rfl) (rone_ok (x := letC (a % 3))) fun v1 G' H' _ hR hG21 hs => ?_)
    obtain ⟨rfl, rfl⟩ := hR
    replace hs : St _ _ [_] _ := hs
    obtain ⟨c0, c1, c2, c3, hc4⟩ := four_of (show (addF noC (letC (a % 3))).length = 4 from addF_len _ _)
    rw [hc4]
    refine O_y hs (Y_build Tryz.zeroValue42 rfl PL42 rfl (cs := [_, _, _, _, _, _, _, _, _]) rfl ?_)
    refine O_n (S_stA hs Tryz.sizeOf42 rfl rfl (vs := [_, _, _, _, _, _, _, _, _]) rfl (rfl) (by simp) (cs' := [_, _, _, _, _, _, _, _, _]) rfl fun _ hs => ?_)
    refine O_nil (T_kp [4] rfl ?_)
    refine T_ret ?_
    have hr := hs
    refine Rt_fin (vs := [_]) Tryz.results55 rfl ⟨ResOk_blk 0 hr Tryz.isAgg42 Tryz.sizeOf42 rfl (cs := [_, _, _, _, _, _, _, _, _]) rfl rfl, trivial⟩ ?_
    try dsimp only [tup]
    exact ⟨_, [], hs.done, rfl, by unfold leafF; rw [if_neg (by omega), if_neg (by omega), if_pos (by omega), hc4]; rfl⟩
   ·
    dsimp only [cmpP] at h16
    refine O_nil (T_kp [1, 4, 16] rfl ?_)
    refine T_condF rfl (T_skip ?_)
    refine T_seq (T_region rfl ?_)
    refine O_y hs (Y_buildA Tryz.underlying40 Tryz.sizeOf38 Tryz.zeroValue40 rfl rfl (cs := [_, _, _, _]) rfl ?_)
    refine O_s (S_alloc hs Tryz.zeroValue40 (cs := (List.map u64V [0, 0, 0, 0])) rfl fun b5 _ hs => ?_)
    refine O_n (S_stW hs Tryz.sizeOf40 rfl rfl (vs := (List.map u64V noC)) (by first | omega | (simp; omega) | simp) (by first | omega | (simp; omega) | simp) (u64_all _) fun _ hs => ?_)
    refine O_nil (T_kp [1, 4, 5] rfl ?_)
    refine T_seq (T_seq (T_region rfl ?_))
    refine O_a rfl ?_
    refine O_nil (T_kp [1, 4, 5, 6] rfl ?_)
    refine T_block (T_loop (fun m E w => ∃ (i : Nat) (G' : Ghost), i ≤ 3 ∧ m = 3 - i ∧ E = ⟨[], [(1, .int .i64 (a : Int)), (4, .pointer (some ⟨b4, 0, none⟩)), (5, .pointer (some ⟨b5, 0, none⟩)), (6, .int .i64 (i : Int))]⟩ ∧ St ⟨w0, G, feet []⟩ G' [.blk b5 40 (List.map u64V (bitsC a i)), .blk b4 42 [.int .i64 0, .int .u64 0, .int .u64 0, .int .u64 0, .int .u64 0, .int .i64 0, .int .i64 0, .int .i64 0, .int .i64 0]] w) (L := [(1, _), (4, _), (5, _), (6, _)]) ⟨rfl, rfl, rfl, rfl, trivial⟩ (⟨0, _, by omega, rfl, rfl, hs⟩) fun m E w hI => ?_)
    obtain ⟨i, G', hi, rfl, rfl, hs⟩ := hI
    have hbi0 := bitsC_len a i
    refine T_seq (T_seq (T_region rfl ?_))
    refine O_m rfl ?_
    refine O_y hs (Y_cmpS rfl rfl rfl (fun h25 => ?_) (fun h25 => ?_))
    ·
     dsimp only [cmpP] at h25
     refine O_nil (T_kp [1, 4, 5, 6, 25] rfl ?_)
     refine T_condT rfl (T_skip ?_)
     refine T_seq (T_block (T_seq (T_region rfl ?_)))
     refine O_m rfl ?_
     refine O_m rfl ?_
     refine O_y hs (Y_shr (c := ((a / 2 ^ i : Nat) : Int)) rfl rfl (by omega) (shr_pow a i (by omega)) ?_)
     refine O_y hs (Y_rem (c := ((a / 2 ^ i % 2 : Nat) : Int)) rfl rfl (Int.natCast_nonneg _) (by decide) rfl ?_)
     refine O_y hs (Y_cmpS rfl rfl rfl (fun h32 => ?_) (fun h32 => ?_))
     ·
      dsimp only [cmpP] at h32
      refine O_nil (T_kp [1, 4, 5, 6, 32] rfl ?_)
      refine T_condT rfl (T_region rfl ?_)
      refine O_y hs (Y_ldW 0 Tryz.isAgg40 Tryz.sizeOf40 rfl rfl (by first | omega | (simp; omega) | simp) ?_)
      refine O_m rfl ?_
      refine O_y hs (Y_add (c := ((97 + i : Nat) : Int)) rfl rfl (by omega) (by omega) ?_)
      refine O_y hs (Y_conv Tryz.underlying3 Tryz.underlying5 (c := ((letC i).toNat : Int)) rfl (letC_int (by omega)) ?_)
      refine O_s (S_call (H1 := []) hs rfl Tryz.func30 rfl (by kernel_rfl) (radd_ok (c := bitsC a i) (x := letC i) (bitsC_len a i)) fun v2 G' H' _ hR hG37 hs => ?_)
      obtain ⟨rfl, rfl⟩ := hR
      replace hs : St _ _ [_, _] _ := hs
      have hbi : (addF (bitsC a i) (letC i)).length = 4 := by rw [addF_len]; exact bitsC_len a i
      refine O_n (S_stW hs Tryz.sizeOf40 rfl rfl (vs := (List.map u64V (addF (bitsC a i) (letC i)))) (by first | omega | (simp; omega) | simp) (by first | omega | (simp; omega) | simp) (u64_all _) fun _ hs => ?_)
      refine O_nil (T_kp [1, 4, 5, 6] rfl ?_)
      refine T_region rfl ?_
      refine O_m rfl ?_
      refine O_y hs (Y_add (c := ((i + 1 : Nat) : Int)) rfl rfl (by omega) (by omega) ?_)
      refine O_a rfl ?_
      have hs := hs.f1
      have hs := hs.f1
      refine O_nil ⟨_, ?_, [(1, _), (4, _), (5, _), (6, _)], ⟨rfl, rfl, rfl, rfl, trivial⟩, ⟨i + 1, _, by omega, rfl, rfl, by rw [bitsC_t (by omega)]; exact hs⟩⟩
      omega
     ·
      dsimp only [cmpP] at h32
      refine O_nil (T_kp [1, 4, 5, 6, 32] rfl ?_)
      refine T_condF rfl (T_skip ?_)
      refine T_region rfl ?_
      refine O_m rfl ?_
      refine O_y hs (Y_add (c := ((i + 1 : Nat) : Int)) rfl rfl (by omega) (by omega) ?_)
      refine O_a rfl ?_
      have hs := hs.f1
      have hs := hs.f1
      refine O_nil ⟨_, ?_, [(1, _), (4, _), (5, _), (6, _)], ⟨rfl, rfl, rfl, rfl, trivial⟩, ⟨i + 1, _, by omega, rfl, rfl, by rw [bitsC_f (by omega)]; exact hs⟩⟩
      omega
    ·
     dsimp only [cmpP] at h25
     refine O_nil (T_kp [1, 4, 5, 6, 25] rfl ?_)
     refine T_condF rfl (T_exit ?_)
     obtain rfl : i = 3 := by omega
     refine T_seq (T_seq (T_region rfl ?_))
     refine O_m rfl ?_
     refine O_y hs (Y_cmpS rfl rfl rfl (fun h39 => ?_) (fun h39 => ?_))
     ·
      dsimp only [cmpP] at h39
      refine O_nil (T_kp [4, 5, 39] rfl ?_)
      refine T_condT rfl (T_seq (T_region rfl ?_))
      refine O_s (S_call (H1 := []) hs rfl Tryz.func74 rfl (by kernel_rfl) (rall_ok) fun v3 G' H' _ hR hG40 hs => ?_)
      obtain ⟨rfl, rfl⟩ := hR
      replace hs : St _ _ [_, _] _ := hs
      refine O_s (S_alloc hs Tryz.zeroValue40 (cs := (List.map u64V [0, 0, 0, 0])) rfl fun b7 _ hs => ?_)
      refine O_n (S_stW hs Tryz.sizeOf40 rfl rfl (vs := (List.map u64V allC)) (by first | omega | (simp; omega) | simp) (by first | omega | (simp; omega) | simp) (u64_all _) fun _ hs => ?_)
      refine O_nil (T_kp [4, 5, 7] rfl ?_)
      refine T_seq (T_region rfl ?_)
      refine O_a rfl ?_
      refine O_nil (T_kp [4, 5, 7, 8] rfl ?_)
      have hs := hs.f2
      have hs := hs.f1
      have hs := hs.f2
      refine T_block (T_loop (fun m E w => ∃ (i : Nat) (G' : Ghost), i ≤ 4 ∧ m = 4 - i ∧ E = ⟨[], [(4, .pointer (some ⟨b4, 0, none⟩)), (5, .pointer (some ⟨b5, 0, none⟩)), (7, .pointer (some ⟨b7, 0, none⟩)), (8, .int .i64 (i : Int))]⟩ ∧ St ⟨w0, G, feet []⟩ G' [.blk b5 40 (List.map u64V (mixC (bitsC a 3) i)), .blk b7 40 (List.map u64V allC), .blk b4 42 [.int .i64 0, .int .u64 0, .int .u64 0, .int .u64 0, .int .u64 0, .int .i64 0, .int .i64 0, .int .i64 0, .int .i64 0]] w) (L := [(4, _), (5, _), (7, _), (8, _)]) ⟨rfl, rfl, rfl, rfl, trivial⟩ (⟨0, _, by omega, rfl, rfl, hs⟩) fun m E w hI => ?_)
      obtain ⟨i, G', hi, rfl, rfl, hs⟩ := hI
      refine T_seq (T_seq (T_region rfl ?_))
      refine O_m rfl ?_
      refine O_y hs (Y_cmpS rfl rfl rfl (fun h42 => ?_) (fun h42 => ?_))
      ·
       dsimp only [cmpP] at h42
       refine O_nil (T_kp [4, 5, 7, 8, 42] rfl ?_)
       refine T_condT rfl (T_skip ?_)
       refine T_seq (T_block (T_drawS [0, 1, 2, 3, 4, 5, 6, 7, 8] hs (by kernel_rfl) ?_))
       replace hs := hs.drew
       refine A_take 0 rfl (by kernel_rfl) rfl hs (Y_move rfl ?_)
       refine A_take 1 rfl (by kernel_rfl) rfl hs (Y_move rfl ?_)
       refine A_take 2 rfl (by kernel_rfl) rfl hs (Y_idxArr' i Tryz.underlying40 Tryz.sizeOf38 rfl rfl rfl (by omega) ?_)
       refine A_take 3 rfl (by kernel_rfl) rfl hs (Y_ld 1 Tryz.isAgg38 rfl rfl (allC_get (by omega)) ?_)
       refine A_take 4 rfl (by kernel_rfl) rfl hs (Y_move rfl ?_)
       refine A_take 5 rfl (by kernel_rfl) rfl hs (Y_idxArr' i Tryz.underlying40 Tryz.sizeOf38 rfl rfl rfl (by omega) ?_)
       refine A_take 6 rfl (by kernel_rfl) rfl hs (Y_ld 0 Tryz.isAgg38 rfl rfl (mixC_get hbl (by omega)) ?_)
       refine A_take 7 rfl (by kernel_rfl) rfl hs (Y_xor64 rfl rfl ?_)
       refine A_take 8 rfl (by kernel_rfl) rfl hs (Y_idxArr' i Tryz.underlying40 Tryz.sizeOf38 rfl rfl rfl (by omega) ?_)
       refine A_tailN 9 rfl (by kernel_rfl) (by kernel_rfl) rfl (S_st hs Tryz.sizeOf38 rfl rfl rfl (by rw [List.length_map, mixC_len hbl (by omega)]; omega) (cs' := _) rfl fun _ hs => ?_)
       refine A_done (by kernel_rfl) (T_kp [4, 5, 7, 8] rfl ?_)
       refine T_region rfl ?_
       refine O_m rfl ?_
       refine O_y hs (Y_add (c := ((i + 1 : Nat) : Int)) rfl rfl (by omega) (by omega) ?_)
       refine O_a rfl ?_
       have hs := hs.f2
       have hs := hs.f2
       have hs := hs.f2
       refine O_nil ⟨_, ?_, [(4, _), (5, _), (7, _), (8, _)], ⟨rfl, rfl, rfl, rfl, trivial⟩, ⟨i + 1, _, by omega, rfl, rfl, by rw [← mixC_set hbl (by omega)]; exact hs⟩⟩
       omega
      ·
       dsimp only [cmpP] at h42
       refine O_nil (T_kp [4, 5, 7, 8, 42] rfl ?_)
       refine T_condF rfl (T_exit ?_)
       refine T_seq (T_region rfl ?_)
       obtain rfl : i = 4 := by omega
       obtain ⟨c0, c1, c2, c3, hc4⟩ := four_of (show (mixC (bitsC a 3) 4).length = 4 from mixC_len hbl (by omega))
       rw [hc4] at hs
       refine O_y hs (Y_ldW 0 Tryz.isAgg40 Tryz.sizeOf40 rfl rfl (by first | omega | (simp; omega) | simp) ?_)
       refine O_y hs (Y_build Tryz.zeroValue42 rfl PL42 rfl (cs := [_, _, _, _, _, _, _, _, _]) rfl ?_)
       have hs := hs.f2
       refine O_n (S_stA hs Tryz.sizeOf42 rfl rfl (vs := [_, _, _, _, _, _, _, _, _]) rfl (rfl) (by simp) (cs' := [_, _, _, _, _, _, _, _, _]) rfl fun _ hs => ?_)
       refine O_nil (T_kp [4] rfl ?_)
       refine T_ret ?_
       have hr := hs
       refine Rt_fin (vs := [_]) Tryz.results55 rfl ⟨ResOk_blk 0 hr Tryz.isAgg42 Tryz.sizeOf42 rfl (cs := [_, _, _, _, _, _, _, _, _]) rfl rfl, trivial⟩ ?_
       try dsimp only [tup]
       exact ⟨_, [], hs.done, rfl, by unfold leafF leafC; rw [if_neg (by omega), if_neg (by omega), if_neg (by omega), if_pos (by omega), ← mixC_4 hbl, hc4]; rfl⟩
     ·
      dsimp only [cmpP] at h39
      refine O_nil (T_kp [4, 5, 39] rfl ?_)
      refine T_condF rfl (T_skip ?_)
      refine T_seq (T_region rfl ?_)
      obtain ⟨c0, c1, c2, c3, hc4⟩ := four_of (show (bitsC a 3).length = 4 from hbl)
      rw [hc4] at hs
      refine O_y hs (Y_ldW 0 Tryz.isAgg40 Tryz.sizeOf40 rfl rfl (by first | omega | (simp; omega) | simp) ?_)
      refine O_y hs (Y_build Tryz.zeroValue42 rfl PL42 rfl (cs := [_, _, _, _, _, _, _, _, _]) rfl ?_)
      have hs := hs.f1
      refine O_n (S_stA hs Tryz.sizeOf42 rfl rfl (vs := [_, _, _, _, _, _, _, _, _]) rfl (rfl) (by simp) (cs' := [_, _, _, _, _, _, _, _, _]) rfl fun _ hs => ?_)
      refine O_nil (T_kp [4] rfl ?_)
      refine T_ret ?_
      have hr := hs
      refine Rt_fin (vs := [_]) Tryz.results55 rfl ⟨ResOk_blk 0 hr Tryz.isAgg42 Tryz.sizeOf42 rfl (cs := [_, _, _, _, _, _, _, _, _]) rfl rfl, trivial⟩ ?_
      try dsimp only [tup]
      exact ⟨_, [], hs.done, rfl, by unfold leafF leafC; rw [if_neg (by omega), if_neg (by omega), if_neg (by omega), if_neg (by omega), hc4]; rfl⟩

set_option maxHeartbeats 4000000 in
set_option maxRecDepth 10000 in
theorem push_ok {G : Ghost} {v : Value} {st : List (List NodeV)} {b : UInt8} (hst : Stk G v st) (hf : Forest st) (ht : total st ≤ 5000000) :
  FnOk Tryz.prog 37 [v, .int .u8 (b.toNat : Int)] G [] fun r G' H' => H' = [] ∧ ∃ st', Stk G' r st' ∧ Push st st' ∧ (b = 5 → 2 ≤ st.length → st'.length + 1 = st.length) := by
 obtain ⟨A, cap, rfl⟩ := LstR.slice hst
 have hb := b.toNat_lt
 have hln := hf.len
 obtain ⟨k, hkb⟩ : ∃ k, k = b.toNat % 14 := ⟨_, rfl⟩
 obtain ⟨a, hab⟩ : ∃ a, a = b.toNat / 14 := ⟨_, rfl⟩
 refine FnOk.of_T [(0, _), (1, _)] Tryz.func37 rfl Tryz.ntmps37 (by simp) rfl fun w0 hs => ?_
 have hst0 := hst
 refine T_seq (T_region rfl ?_)
 refine O_a rfl ?_
 refine O_nil (T_kp [0, 1] rfl ?_)
 refine T_seq (T_region rfl ?_)
 refine O_m rfl ?_
 refine O_y hs (Y_len Tryz.underlying63 rfl ?_)
 refine O_a rfl ?_
 refine O_nil (T_kp [0, 1, 5] rfl ?_)
 refine T_seq (T_region rfl ?_)
 refine O_m rfl ?_
 refine O_y hs (Y_rem (c := (k : Int)) rfl rfl (by omega) (by omega) (by omega) ?_)
 refine O_y hs (Y_conv Tryz.underlying5 Tryz.underlying3 (c := (k : Int)) rfl (by rw [IntKind.wrap_i64]; omega) ?_)
 refine O_a rfl ?_
 refine O_nil (T_kp [0, 1, 5, 6] rfl ?_)
 refine T_seq (T_region rfl ?_)
 refine O_m rfl ?_
 refine O_y hs (Y_quoU (c := (a : Int)) rfl rfl (by omega) (by omega) (by omega) ?_)
 refine O_y hs (Y_conv Tryz.underlying5 Tryz.underlying3 (c := (a : Int)) rfl (by rw [IntKind.wrap_i64]; omega) ?_)
 refine O_a rfl ?_
 refine O_nil (T_kp [0, 5, 6, 7] rfl ?_)
 refine T_seq (T_seq (T_region rfl ?_))
 refine O_m rfl ?_
 refine O_y hs (Y_cmpS rfl rfl rfl (fun h19 => ?_) (fun h19 => ?_))
 ·
  dsimp only [cmpP] at h19
  refine O_m rfl ?_
  refine O_yy 20 hs rfl rfl (Y_move rfl ?_)
  refine O_yy 20 hs rfl rfl (Y_cmpS rfl rfl rfl (fun h22 => ?_) (fun h22 => ?_))
  ·
   dsimp only [cmpP] at h22
   refine O_yy 20 hs rfl rfl (Y_move rfl ?_)
   refine O_no 23 rfl rfl ?_
   refine O_no 23 rfl rfl ?_
   refine O_yy 20 hs rfl rfl (Y_pickT rfl rfl ?_)
   refine O_yy 20 hs rfl rfl (Y_move rfl ?_)
   refine O_no 27 rfl rfl ?_
   refine O_no 27 rfl rfl ?_
   refine O_yy 20 hs rfl rfl (Y_pickT rfl rfl ?_)
   refine O_yy 20 hs rfl rfl (Y_move rfl ?_)
   refine O_no 31 rfl rfl ?_
   refine O_no 31 rfl rfl ?_
   refine O_yy 20 hs rfl rfl (Y_pickT rfl rfl ?_)
   refine O_y hs (Y_pickT rfl rfl ?_)
   refine O_nil (T_kp [0, 5, 6, 7, 35] rfl ?_)
   refine T_condT rfl (T_seq (T_region rfl ?_))
   refine O_a rfl ?_
   refine O_nil (T_kp [0, 5, 6, 8] rfl ?_)
   refine T_seq (T_seq (T_region rfl ?_))
   refine O_m rfl ?_
   refine O_y hs (Y_cmpF rfl rfl rfl (by omega) ?_)
   refine O_nil (T_kp [0, 5, 6, 8, 37] rfl ?_)
   refine T_condF rfl (T_skip ?_)
   refine T_seq (T_seq (T_region rfl ?_))
   refine O_m rfl ?_
   refine O_y hs (Y_cmpF rfl rfl rfl (by omega) ?_)
   refine O_nil (T_kp [0, 5, 8, 39] rfl ?_)
   refine T_condF rfl (T_skip ?_)
   obtain ⟨n2, hn2⟩ : ∃ n2, st.length = n2 + 2 := ⟨st.length - 2, by omega⟩
   have hle47 := total_le (st := st) (i := n2) (by omega)
   have hle52 := total_le (st := st) (i := n2 + 1) (by omega)
   refine T_seq (T_drawS [0, 1, 2, 3, 4, 5, 6, 7, 8, 9, 10, 11, 12, 13, 14, 15, 16] hs (by kernel_rfl) ?_)
   replace hs := hs.drew
   refine A_take 0 rfl (by kernel_rfl) rfl hs (Y_move rfl ?_)
   refine A_take 1 rfl (by kernel_rfl) rfl hs (Y_move rfl ?_)
   refine A_take 2 rfl (by kernel_rfl) rfl hs (Y_sub (c := (n2 : Int)) rfl rfl (by omega) (by omega) ?_)
   refine A_take 3 rfl (by kernel_rfl) rfl hs (Y_move rfl ?_)
   refine A_take 4 rfl (by kernel_rfl) rfl hs (Y_move rfl ?_)
   refine A_take 5 rfl (by kernel_rfl) rfl hs (Y_move rfl ?_)
   refine A_take 6 rfl (by kernel_rfl) rfl hs (Y_sub (c := (n2 : Int)) rfl rfl (by omega) (by omega) ?_)
   refine A_take 7 rfl (by kernel_rfl) rfl hs (Y_idxS hst n2 Tryz.underlying63 Tryz.sizeOf24 rfl rfl rfl (by omega) fun p47 c47 hp47 hc47 hR47 => ?_)
   obtain ⟨u47, rfl, hx47⟩ := hR47
   obtain ⟨A47, q47, rfl⟩ := LstR.slice hx47
   refine A_take 8 rfl (by kernel_rfl) rfl hs (Y_ldG Tryz.isAgg24 rfl (gcell_0 (hp47 0 _ rfl)) ?_)
   refine A_take 9 rfl (by kernel_rfl) rfl hs (Y_move rfl ?_)
   refine A_take 10 rfl (by kernel_rfl) rfl hs (Y_move rfl ?_)
   refine A_take 11 rfl (by kernel_rfl) rfl hs (Y_sub (c := ((n2 + 1 : Nat) : Int)) rfl rfl (by omega) (by omega) ?_)
   refine A_take 12 rfl (by kernel_rfl) rfl hs (Y_idxS hst (n2 + 1) Tryz.underlying63 Tryz.sizeOf24 rfl rfl rfl (by omega) fun p52 c52 hp52 hc52 hR52 => ?_)
   obtain ⟨u52, rfl, hx52⟩ := hR52
   obtain ⟨A52, q52, rfl⟩ := LstR.slice hx52
   refine A_take 13 rfl (by kernel_rfl) rfl hs (Y_ldG Tryz.isAgg24 rfl (gcell_0 (hp52 0 _ rfl)) ?_)
   have hle := hs.le
   refine A_only 14 rfl (by kernel_rfl) rfl (S_call (H1 := []) hs rfl Tryz.func20 rfl (by kernel_rfl) (rbin_ok (kk := 4) hx47 hx52 (by omega) (by omega) ((hf.at (by omega)).rng (by omega))) fun v1 G' H' _ hR hG54 hs => ?_)
   obtain ⟨rfl, hU⟩ := hR
   replace hs : St _ _ [] _ := hs
   replace hst := hst.mono hG54
   replace hx47 := hx47.mono hG54
   replace hx52 := hx52.mono hG54
   refine A_moreS hs hle hG54 (List.Sublist.refl _) ?_
   have hle := hs.le
   refine A_only 15 rfl (by kernel_rfl) rfl (S_call (H1 := []) hs rfl Tryz.func54 rfl (by kernel_rfl) (rstk_ok (n := n2) hst hU (by omega) (by omega)) fun v2 G' H' _ hR hG55 hs => ?_)
   obtain ⟨rfl, hV⟩ := hR
   replace hs : St _ _ [] _ := hs
   replace hst := hst.mono hG55
   replace hx47 := hx47.mono hG55
   replace hx52 := hx52.mono hG55
   replace hU := hU.mono hG55
   refine A_moreS hs hle hG55 (List.Sublist.refl _) ?_
   refine A_take 16 rfl (by kernel_rfl) rfl hs (Y_assign rfl ?_)
   refine A_done (by kernel_rfl) (T_kp [4] rfl ?_)
   refine T_ret ?_
   refine Rt_fin (vs := [_]) Tryz.results37 rfl ⟨rfl, trivial⟩ ?_
   try dsimp only [tup]
   exact ⟨_, [], hs.done, rfl, _, hV, push_bin hf hn2 (.inl rfl), fun _ _ => by rw [List.length_append, List.length_take]; show min n2 st.length + 1 + 1 = _; omega⟩
  ·
   dsimp only [cmpP] at h22
   refine O_yy 20 hs rfl rfl (Y_move rfl ?_)
   refine O_yy 23 hs rfl rfl (Y_move rfl ?_)
   refine O_yy 23 hs rfl rfl (Y_cmpS rfl rfl rfl (fun h25 => ?_) (fun h25 => ?_))
   ·
    dsimp only [cmpP] at h25
    refine O_yy 20 hs rfl rfl (Y_pickF rfl rfl ?_)
    refine O_yy 20 hs rfl rfl (Y_move rfl ?_)
    refine O_no 27 rfl rfl ?_
    refine O_no 27 rfl rfl ?_
    refine O_yy 20 hs rfl rfl (Y_pickT rfl rfl ?_)
    refine O_yy 20 hs rfl rfl (Y_move rfl ?_)
    refine O_no 31 rfl rfl ?_
    refine O_no 31 rfl rfl ?_
    refine O_yy 20 hs rfl rfl (Y_pickT rfl rfl ?_)
    refine O_y hs (Y_pickT rfl rfl ?_)
    refine O_nil (T_kp [0, 5, 6, 7, 35] rfl ?_)
    refine T_condT rfl (T_seq (T_region rfl ?_))
    refine O_a rfl ?_
    refine O_nil (T_kp [0, 5, 6, 8] rfl ?_)
    refine T_seq (T_seq (T_region rfl ?_))
    refine O_m rfl ?_
    refine O_y hs (Y_cmpT rfl rfl rfl (by omega) ?_)
    refine O_nil (T_kp [0, 5, 6, 8, 37] rfl ?_)
    refine T_condT rfl (T_region rfl ?_)
    refine O_a rfl ?_
    refine O_nil (T_kp [0, 5, 6, 8] rfl ?_)
    refine T_seq (T_seq (T_region rfl ?_))
    refine O_m rfl ?_
    refine O_y hs (Y_cmpF rfl rfl rfl (by omega) ?_)
    refine O_nil (T_kp [0, 5, 8, 39] rfl ?_)
    refine T_condF rfl (T_skip ?_)
    obtain ⟨n2, hn2⟩ : ∃ n2, st.length = n2 + 2 := ⟨st.length - 2, by omega⟩
    have hle47 := total_le (st := st) (i := n2) (by omega)
    have hle52 := total_le (st := st) (i := n2 + 1) (by omega)
    refine T_seq (T_drawS [0, 1, 2, 3, 4, 5, 6, 7, 8, 9, 10, 11, 12, 13, 14, 15, 16] hs (by kernel_rfl) ?_)
    replace hs := hs.drew
    refine A_take 0 rfl (by kernel_rfl) rfl hs (Y_move rfl ?_)
    refine A_take 1 rfl (by kernel_rfl) rfl hs (Y_move rfl ?_)
    refine A_take 2 rfl (by kernel_rfl) rfl hs (Y_sub (c := (n2 : Int)) rfl rfl (by omega) (by omega) ?_)
    refine A_take 3 rfl (by kernel_rfl) rfl hs (Y_move rfl ?_)
    refine A_take 4 rfl (by kernel_rfl) rfl hs (Y_move rfl ?_)
    refine A_take 5 rfl (by kernel_rfl) rfl hs (Y_move rfl ?_)
    refine A_take 6 rfl (by kernel_rfl) rfl hs (Y_sub (c := (n2 : Int)) rfl rfl (by omega) (by omega) ?_)
    refine A_take 7 rfl (by kernel_rfl) rfl hs (Y_idxS hst n2 Tryz.underlying63 Tryz.sizeOf24 rfl rfl rfl (by omega) fun p47 c47 hp47 hc47 hR47 => ?_)
    obtain ⟨u47, rfl, hx47⟩ := hR47
    obtain ⟨A47, q47, rfl⟩ := LstR.slice hx47
    refine A_take 8 rfl (by kernel_rfl) rfl hs (Y_ldG Tryz.isAgg24 rfl (gcell_0 (hp47 0 _ rfl)) ?_)
    refine A_take 9 rfl (by kernel_rfl) rfl hs (Y_move rfl ?_)
    refine A_take 10 rfl (by kernel_rfl) rfl hs (Y_move rfl ?_)
    refine A_take 11 rfl (by kernel_rfl) rfl hs (Y_sub (c := ((n2 + 1 : Nat) : Int)) rfl rfl (by omega) (by omega) ?_)
    refine A_take 12 rfl (by kernel_rfl) rfl hs (Y_idxS hst (n2 + 1) Tryz.underlying63 Tryz.sizeOf24 rfl rfl rfl (by omega) fun p52 c52 hp52 hc52 hR52 => ?_)
    obtain ⟨u52, rfl, hx52⟩ := hR52
    obtain ⟨A52, q52, rfl⟩ := LstR.slice hx52
    refine A_take 13 rfl (by kernel_rfl) rfl hs (Y_ldG Tryz.isAgg24 rfl (gcell_0 (hp52 0 _ rfl)) ?_)
    have hle := hs.le
    refine A_only 14 rfl (by kernel_rfl) rfl (S_call (H1 := []) hs rfl Tryz.func20 rfl (by kernel_rfl) (rbin_ok (kk := 5) hx47 hx52 (by omega) (by omega) ((hf.at (by omega)).rng (by omega))) fun v3 G' H' _ hR hG54 hs => ?_)
    obtain ⟨rfl, hU⟩ := hR
    replace hs : St _ _ [] _ := hs
    replace hst := hst.mono hG54
    replace hx47 := hx47.mono hG54
    replace hx52 := hx52.mono hG54
    refine A_moreS hs hle hG54 (List.Sublist.refl _) ?_
    have hle := hs.le
    refine A_only 15 rfl (by kernel_rfl) rfl (S_call (H1 := []) hs rfl Tryz.func54 rfl (by kernel_rfl) (rstk_ok (n := n2) hst hU (by omega) (by omega)) fun v4 G' H' _ hR hG55 hs => ?_)
    obtain ⟨rfl, hV⟩ := hR
    replace hs : St _ _ [] _ := hs
    replace hst := hst.mono hG55
    replace hx47 := hx47.mono hG55
    replace hx52 := hx52.mono hG55
    replace hU := hU.mono hG55
    refine A_moreS hs hle hG55 (List.Sublist.refl _) ?_
    refine A_take 16 rfl (by kernel_rfl) rfl hs (Y_assign rfl ?_)
    refine A_done (by kernel_rfl) (T_kp [4] rfl ?_)
    refine T_ret ?_
    refine Rt_fin (vs := [_]) Tryz.results37 rfl ⟨rfl, trivial⟩ ?_
    try dsimp only [tup]
    exact ⟨_, [], hs.done, rfl, _, hV, push_bin hf hn2 (.inr (.inl rfl)), fun _ _ => by rw [List.length_append, List.length_take]; show min n2 st.length + 1 + 1 = _; omega⟩
   ·
    dsimp only [cmpP] at h25
    refine O_yy 20 hs rfl rfl (Y_pickF rfl rfl ?_)
    refine O_yy 20 hs rfl rfl (Y_move rfl ?_)
    refine O_yy 27 hs rfl rfl (Y_move rfl ?_)
    refine O_yy 27 hs rfl rfl (Y_cmpS rfl rfl rfl (fun h29 => ?_) (fun h29 => ?_))
    ·
     dsimp only [cmpP] at h29
     refine O_yy 20 hs rfl rfl (Y_pickF rfl rfl ?_)
     refine O_yy 20 hs rfl rfl (Y_move rfl ?_)
     refine O_no 31 rfl rfl ?_
     refine O_no 31 rfl rfl ?_
     refine O_yy 20 hs rfl rfl (Y_pickT rfl rfl ?_)
     refine O_y hs (Y_pickT rfl rfl ?_)
     refine O_nil (T_kp [0, 5, 6, 7, 35] rfl ?_)
     refine T_condT rfl (T_seq (T_region rfl ?_))
     refine O_a rfl ?_
     refine O_nil (T_kp [0, 5, 6, 8] rfl ?_)
     refine T_seq (T_seq (T_region rfl ?_))
     refine O_m rfl ?_
     refine O_y hs (Y_cmpF rfl rfl rfl (by omega) ?_)
     refine O_nil (T_kp [0, 5, 6, 8, 37] rfl ?_)
     refine T_condF rfl (T_skip ?_)
     refine T_seq (T_seq (T_region rfl ?_))
     refine O_m rfl ?_
     refine O_y hs (Y_cmpT rfl rfl rfl (by omega) ?_)
     refine O_nil (T_kp [0, 5, 8, 39] rfl ?_)
     refine T_condT rfl (T_region rfl ?_)
     refine O_a rfl ?_
     refine O_nil (T_kp [0, 5, 8] rfl ?_)
     obtain ⟨n2, hn2⟩ : ∃ n2, st.length = n2 + 2 := ⟨st.length - 2, by omega⟩
     have hle47 := total_le (st := st) (i := n2) (by omega)
     have hle52 := total_le (st := st) (i := n2 + 1) (by omega)
     refine T_seq (T_drawS [0, 1, 2, 3, 4, 5, 6, 7, 8, 9, 10, 11, 12, 13, 14, 15, 16] hs (by kernel_rfl) ?_)
     replace hs := hs.drew
     refine A_take 0 rfl (by kernel_rfl) rfl hs (Y_move rfl ?_)
     refine A_take 1 rfl (by kernel_rfl) rfl hs (Y_move rfl ?_)
     refine A_take 2 rfl (by kernel_rfl) rfl hs (Y_sub (c := (n2 : Int)) rfl rfl (by omega) (by omega) ?_)
     refine A_take 3 rfl (by kernel_rfl) rfl hs (Y_move rfl ?_)
     refine A_take 4 rfl (by kernel_rfl) rfl hs (Y_move rfl ?_)
     refine A_take 5 rfl (by kernel_rfl) rfl hs (Y_move rfl ?_)
     refine A_take 6 rfl (by kernel_rfl) rfl hs (Y_sub (c := (n2 : Int)) rfl rfl (by omega) (by omega) ?_)
     refine A_take 7 rfl (by kernel_rfl) rfl hs (Y_idxS hst n2 Tryz.underlying63 Tryz.sizeOf24 rfl rfl rfl (by omega) fun p47 c47 hp47 hc47 hR47 => ?_)
     obtain ⟨u47, rfl, hx47⟩ := hR47
     obtain ⟨A47, q47, rfl⟩ := LstR.slice hx47
     refine A_take 8 rfl (by kernel_rfl) rfl hs (Y_ldG Tryz.isAgg24 rfl (gcell_0 (hp47 0 _ rfl)) ?_)
     refine A_take 9 rfl (by kernel_rfl) rfl hs (Y_move rfl ?_)
     refine A_take 10 rfl (by kernel_rfl) rfl hs (Y_move rfl ?_)
     refine A_take 11 rfl (by kernel_rfl) rfl hs (Y_sub (c := ((n2 + 1 : Nat) : Int)) rfl rfl (by omega) (by omega) ?_)
     refine A_take 12 rfl (by kernel_rfl) rfl hs (Y_idxS hst (n2 + 1) Tryz.underlying63 Tryz.sizeOf24 rfl rfl rfl (by omega) fun p52 c52 hp52 hc52 hR52 => ?_)
     obtain ⟨u52, rfl, hx52⟩ := hR52
     obtain ⟨A52, q52, rfl⟩ := LstR.slice hx52
     refine A_take 13 rfl (by kernel_rfl) rfl hs (Y_ldG Tryz.isAgg24 rfl (gcell_0 (hp52 0 _ rfl)) ?_)
     have hle := hs.le
     refine A_only 14 rfl (by kernel_rfl) rfl (S_call (H1 := []) hs rfl Tryz.func20 rfl (by kernel_rfl) (rbin_ok (kk := 6) hx47 hx52 (by omega) (by omega) ((hf.at (by omega)).rng (by omega))) fun v5 G' H' _ hR hG54 hs => ?_)
     obtain ⟨rfl, hU⟩ := hR
     replace hs : St _ _ [] _ := hs
     replace hst := hst.mono hG54
     replace hx47 := hx47.mono hG54
     replace hx52 := hx52.mono hG54
     refine A_moreS hs hle hG54 (List.Sublist.refl _) ?_
     have hle := hs.le
     refine A_only 15 rfl (by kernel_rfl) rfl (S_call (H1 := []) hs rfl Tryz.func54 rfl (by kernel_rfl) (rstk_ok (n := n2) hst hU (by omega) (by omega)) fun v6 G' H' _ hR hG55 hs => ?_)
     obtain ⟨rfl, hV⟩ := hR
     replace hs : St _ _ [] _ := hs
     replace hst := hst.mono hG55
     replace hx47 := hx47.mono hG55
     replace hx52 := hx52.mono hG55
     replace hU := hU.mono hG55
     refine A_moreS hs hle hG55 (List.Sublist.refl _) ?_
     refine A_take 16 rfl (by kernel_rfl) rfl hs (Y_assign rfl ?_)
     refine A_done (by kernel_rfl) (T_kp [4] rfl ?_)
     refine T_ret ?_
     refine Rt_fin (vs := [_]) Tryz.results37 rfl ⟨rfl, trivial⟩ ?_
     try dsimp only [tup]
     exact ⟨_, [], hs.done, rfl, _, hV, push_bin hf hn2 (.inr (.inr rfl)), fun _ _ => by rw [List.length_append, List.length_take]; show min n2 st.length + 1 + 1 = _; omega⟩
    ·
     dsimp only [cmpP] at h29
     refine O_yy 20 hs rfl rfl (Y_pickF rfl rfl ?_)
     refine O_yy 20 hs rfl rfl (Y_move rfl ?_)
     refine O_yy 31 hs rfl rfl (Y_move rfl ?_)
     refine O_yy 31 hs rfl rfl (Y_cmpS rfl rfl rfl (fun h33 => ?_) (fun h33 => ?_))
     ·
      dsimp only [cmpP] at h33
      refine O_yy 20 hs rfl rfl (Y_pickF rfl rfl ?_)
      refine O_y hs (Y_pickT rfl rfl ?_)
      refine O_nil (T_kp [0, 5, 6, 7, 35] rfl ?_)
      refine T_condT rfl (T_seq (T_region rfl ?_))
      refine O_a rfl ?_
      refine O_nil (T_kp [0, 5, 6, 8] rfl ?_)
      refine T_seq (T_seq (T_region rfl ?_))
      refine O_m rfl ?_
      refine O_y hs (Y_cmpF rfl rfl rfl (by omega) ?_)
      refine O_nil (T_kp [0, 5, 6, 8, 37] rfl ?_)
      refine T_condF rfl (T_skip ?_)
      refine T_seq (T_seq (T_region rfl ?_))
      refine O_m rfl ?_
      refine O_y hs (Y_cmpF rfl rfl rfl (by omega) ?_)
      refine O_nil (T_kp [0, 5, 8, 39] rfl ?_)
      refine T_condF rfl (T_skip ?_)
      obtain ⟨n2, hn2⟩ : ∃ n2, st.length = n2 + 2 := ⟨st.length - 2, by omega⟩
      have hle47 := total_le (st := st) (i := n2) (by omega)
      have hle52 := total_le (st := st) (i := n2 + 1) (by omega)
      refine T_seq (T_drawS [0, 1, 2, 3, 4, 5, 6, 7, 8, 9, 10, 11, 12, 13, 14, 15, 16] hs (by kernel_rfl) ?_)
      replace hs := hs.drew
      refine A_take 0 rfl (by kernel_rfl) rfl hs (Y_move rfl ?_)
      refine A_take 1 rfl (by kernel_rfl) rfl hs (Y_move rfl ?_)
      refine A_take 2 rfl (by kernel_rfl) rfl hs (Y_sub (c := (n2 : Int)) rfl rfl (by omega) (by omega) ?_)
      refine A_take 3 rfl (by kernel_rfl) rfl hs (Y_move rfl ?_)
      refine A_take 4 rfl (by kernel_rfl) rfl hs (Y_move rfl ?_)
      refine A_take 5 rfl (by kernel_rfl) rfl hs (Y_move rfl ?_)
      refine A_take 6 rfl (by kernel_rfl) rfl hs (Y_sub (c := (n2 : Int)) rfl rfl (by omega) (by omega) ?_)
      refine A_take 7 rfl (by kernel_rfl) rfl hs (Y_idxS hst n2 Tryz.underlying63 Tryz.sizeOf24 rfl rfl rfl (by omega) fun p47 c47 hp47 hc47 hR47 => ?_)
      obtain ⟨u47, rfl, hx47⟩ := hR47
      obtain ⟨A47, q47, rfl⟩ := LstR.slice hx47
      refine A_take 8 rfl (by kernel_rfl) rfl hs (Y_ldG Tryz.isAgg24 rfl (gcell_0 (hp47 0 _ rfl)) ?_)
      refine A_take 9 rfl (by kernel_rfl) rfl hs (Y_move rfl ?_)
      refine A_take 10 rfl (by kernel_rfl) rfl hs (Y_move rfl ?_)
      refine A_take 11 rfl (by kernel_rfl) rfl hs (Y_sub (c := ((n2 + 1 : Nat) : Int)) rfl rfl (by omega) (by omega) ?_)
      refine A_take 12 rfl (by kernel_rfl) rfl hs (Y_idxS hst (n2 + 1) Tryz.underlying63 Tryz.sizeOf24 rfl rfl rfl (by omega) fun p52 c52 hp52 hc52 hR52 => ?_)
      obtain ⟨u52, rfl, hx52⟩ := hR52
      obtain ⟨A52, q52, rfl⟩ := LstR.slice hx52
      refine A_take 13 rfl (by kernel_rfl) rfl hs (Y_ldG Tryz.isAgg24 rfl (gcell_0 (hp52 0 _ rfl)) ?_)
      have hle := hs.le
      refine A_only 14 rfl (by kernel_rfl) rfl (S_call (H1 := []) hs rfl Tryz.func20 rfl (by kernel_rfl) (rbin_ok (kk := 4) hx47 hx52 (by omega) (by omega) ((hf.at (by omega)).rng (by omega))) fun v7 G' H' _ hR hG54 hs => ?_)
      obtain ⟨rfl, hU⟩ := hR
      replace hs : St _ _ [] _ := hs
      replace hst := hst.mono hG54
      replace hx47 := hx47.mono hG54
      replace hx52 := hx52.mono hG54
      refine A_moreS hs hle hG54 (List.Sublist.refl _) ?_
      have hle := hs.le
      refine A_only 15 rfl (by kernel_rfl) rfl (S_call (H1 := []) hs rfl Tryz.func54 rfl (by kernel_rfl) (rstk_ok (n := n2) hst hU (by omega) (by omega)) fun v8 G' H' _ hR hG55 hs => ?_)
      obtain ⟨rfl, hV⟩ := hR
      replace hs : St _ _ [] _ := hs
      replace hst := hst.mono hG55
      replace hx47 := hx47.mono hG55
      replace hx52 := hx52.mono hG55
      replace hU := hU.mono hG55
      refine A_moreS hs hle hG55 (List.Sublist.refl _) ?_
      refine A_take 16 rfl (by kernel_rfl) rfl hs (Y_assign rfl ?_)
      refine A_done (by kernel_rfl) (T_kp [4] rfl ?_)
      refine T_ret ?_
      refine Rt_fin (vs := [_]) Tryz.results37 rfl ⟨rfl, trivial⟩ ?_
      try dsimp only [tup]
      exact ⟨_, [], hs.done, rfl, _, hV, push_bin hf hn2 (.inl rfl), fun _ _ => by rw [List.length_append, List.length_take]; show min n2 st.length + 1 + 1 = _; omega⟩
     ·
      dsimp only [cmpP] at h33
      refine O_yy 20 hs rfl rfl (Y_pickF rfl rfl ?_)
      refine O_y hs (Y_pickT rfl rfl ?_)
      refine O_nil (T_kp [0, 5, 6, 7, 35] rfl ?_)
      refine T_condF rfl (T_skip ?_)
      refine T_seq (T_seq (T_region rfl ?_))
      refine O_m rfl ?_
      refine O_y hs (Y_cmpT rfl rfl rfl (by omega) ?_)
      refine O_m rfl ?_
      refine O_yy 58 hs rfl rfl (Y_move rfl ?_)
      refine O_yy 58 hs rfl rfl (Y_cmpS rfl rfl rfl (fun h60 => ?_) (fun h60 => ?_))
      ·
       dsimp only [cmpP] at h60
       refine O_y hs (Y_pickT rfl rfl ?_)
       refine O_m rfl ?_
       refine O_yy 62 hs rfl rfl (Y_move rfl ?_)
       refine O_yy 62 hs rfl rfl (Y_cmpS rfl rfl rfl (fun h64 => ?_) (fun h64 => ?_))
       ·
        dsimp only [cmpP] at h64
        refine O_y hs (Y_pickT rfl rfl ?_)
        refine O_nil (T_kp [0, 5, 6, 7, 65] rfl ?_)
        obtain ⟨n1, hn1⟩ : ∃ n1, st.length = n1 + 1 := ⟨st.length - 1, by omega⟩
        have hle96 := total_le (st := st) (i := n1) (by omega)
        refine T_condT rfl (T_seq (T_region rfl ?_))
        refine O_y hs (Y_build Tryz.zeroValue42 rfl PL42 rfl (cs := [_, _, _, _, _, _, _, _, _]) rfl ?_)
        refine O_s (S_alloc hs Tryz.zeroValue42 (cs := [_, _, _, _, _, _, _, _, _]) rfl fun b9 _ hs => ?_)
        refine O_n (S_stA hs Tryz.sizeOf42 rfl rfl (vs := [_, _, _, _, _, _, _, _, _]) rfl (rfl) (by simp) (cs' := [_, _, _, _, _, _, _, _, _]) rfl fun _ hs => ?_)
        refine O_nil (T_kp [0, 5, 6, 7, 9] rfl ?_)
        refine T_seq (T_seq (T_region rfl ?_))
        refine O_m rfl ?_
        refine O_nil (T_kp [0, 5, 7, 9, 67] rfl ?_)
        refine T_block (T_seq (T_region rfl ?_))
        refine O_y hs (Y_cmpS rfl rfl rfl (fun h69 => ?_) (fun h69 => ?_))
        ·
         dsimp only [cmpP] at h69
         refine O_a rfl ?_
         refine O_nil (T_kp [0, 5, 7, 9, 67, 68] rfl ?_)
         refine T_condT rfl (T_region rfl ?_)
         refine O_y hs (Y_build Tryz.zeroValue42 rfl PL42 rfl (cs := [_, _, _, _, _, _, _, _, _]) rfl ?_)
         refine O_n (S_stA hs Tryz.sizeOf42 rfl rfl (vs := [_, _, _, _, _, _, _, _, _]) rfl (rfl) (by simp) (cs' := [_, _, _, _, _, _, _, _, _]) rfl fun _ hs => ?_)
         refine O_nil (T_kp [0, 5, 9] rfl ?_)
         refine T_seq (T_drawS [0, 1, 2, 3, 4, 5, 6, 7, 8, 9, 10, 11] hs (by kernel_rfl) ?_)
         replace hs := hs.drew
         refine A_take 0 rfl (by kernel_rfl) rfl hs (Y_move rfl ?_)
         refine A_take 1 rfl (by kernel_rfl) rfl hs (Y_move rfl ?_)
         refine A_take 2 rfl (by kernel_rfl) rfl hs (Y_sub (c := (n1 : Int)) rfl rfl (by omega) (by omega) ?_)
         refine A_take 3 rfl (by kernel_rfl) rfl hs (Y_ldA 0 Tryz.isAgg42 Tryz.sizeOf42 rfl rfl (vs := [_, _, _, _, _, _, _, _, _]) rfl rfl ?_)
         refine A_take 4 rfl (by kernel_rfl) rfl hs (Y_move rfl ?_)
         refine A_take 5 rfl (by kernel_rfl) rfl hs (Y_move rfl ?_)
         refine A_take 6 rfl (by kernel_rfl) rfl hs (Y_sub (c := (n1 : Int)) rfl rfl (by omega) (by omega) ?_)
         refine A_take 7 rfl (by kernel_rfl) rfl hs (Y_idxS hst n1 Tryz.underlying63 Tryz.sizeOf24 rfl rfl rfl (by omega) fun p96 c96 hp96 hc96 hR96 => ?_)
         obtain ⟨u96, rfl, hx96⟩ := hR96
         obtain ⟨A96, q96, rfl⟩ := LstR.slice hx96
         refine A_take 8 rfl (by kernel_rfl) rfl hs (Y_ldG Tryz.isAgg24 rfl (gcell_0 (hp96 0 _ rfl)) ?_)
         have hle := hs.le
         refine A_only 9 rfl (by kernel_rfl) rfl (S_call (H1 := []) hs rfl Tryz.func22 rfl (by kernel_rfl) (run_ok (n := ⟨7, noC, 0, 0, 0, 0⟩) hx96 noC_ok (by omega)) fun v9 G' H' _ hR hG98 hs => ?_)
         obtain ⟨rfl, hU⟩ := hR
         replace hs : St _ _ [_] _ := hs
         replace hst := hst.mono hG98
         replace hx96 := hx96.mono hG98
         refine A_moreS hs hle hG98 (List.Sublist.refl _) ?_
         have hle := hs.le
         refine A_only 10 rfl (by kernel_rfl) rfl (S_call (H1 := []) hs rfl Tryz.func54 rfl (by kernel_rfl) (rstk_ok (n := n1) hst hU (by omega) (by omega)) fun v10 G' H' _ hR hG99 hs => ?_)
         obtain ⟨rfl, hV⟩ := hR
         replace hs : St _ _ [_] _ := hs
         replace hst := hst.mono hG99
         replace hx96 := hx96.mono hG99
         replace hU := hU.mono hG99
         refine A_moreS hs hle hG99 (List.Sublist.refl _) ?_
         refine A_take 11 rfl (by kernel_rfl) rfl hs (Y_assign rfl ?_)
         refine A_done (by kernel_rfl) (T_kp [4] rfl ?_)
         refine T_ret ?_
         refine Rt_fin (vs := [_]) Tryz.results37 rfl ⟨rfl, trivial⟩ ?_
         try dsimp only [tup]
         exact ⟨_, [], hs.done, rfl, _, hV, push_un hf hn1 (.inl rfl), fun h5 h6 => absurd h5 (fun h5 => by subst h5; simp at hkb; omega)⟩
        ·
         dsimp only [cmpP] at h69
         refine O_a rfl ?_
         refine O_nil (T_kp [0, 5, 7, 9, 67, 68] rfl ?_)
         refine T_condF rfl (T_seq (T_region rfl ?_))
         refine O_y hs (Y_cmpS rfl rfl rfl (fun h72 => ?_) (fun h72 => ?_))
         ·
          dsimp only [cmpP] at h72
          refine O_a rfl ?_
          refine O_nil (T_kp [0, 5, 7, 9, 67, 71] rfl ?_)
          refine T_condT rfl (T_region rfl ?_)
          refine O_y hs (Y_fieldAddr FO42_4 rfl (m := 7) rfl ?_)
          refine O_n (S_st hs Tryz.sizeOf3 rfl rfl rfl (by simp) (cs' := [_, _, _, _, _, _, _, _, _]) rfl fun _ hs => ?_)
          refine O_nil (T_kp [0, 5, 9] rfl ?_)
          refine T_seq (T_drawS [0, 1, 2, 3, 4, 5, 6, 7, 8, 9, 10, 11] hs (by kernel_rfl) ?_)
          replace hs := hs.drew
          refine A_take 0 rfl (by kernel_rfl) rfl hs (Y_move rfl ?_)
          refine A_take 1 rfl (by kernel_rfl) rfl hs (Y_move rfl ?_)
          refine A_take 2 rfl (by kernel_rfl) rfl hs (Y_sub (c := (n1 : Int)) rfl rfl (by omega) (by omega) ?_)
          refine A_take 3 rfl (by kernel_rfl) rfl hs (Y_ldA 0 Tryz.isAgg42 Tryz.sizeOf42 rfl rfl (vs := [_, _, _, _, _, _, _, _, _]) rfl rfl ?_)
          refine A_take 4 rfl (by kernel_rfl) rfl hs (Y_move rfl ?_)
          refine A_take 5 rfl (by kernel_rfl) rfl hs (Y_move rfl ?_)
          refine A_take 6 rfl (by kernel_rfl) rfl hs (Y_sub (c := (n1 : Int)) rfl rfl (by omega) (by omega) ?_)
          refine A_take 7 rfl (by kernel_rfl) rfl hs (Y_idxS hst n1 Tryz.underlying63 Tryz.sizeOf24 rfl rfl rfl (by omega) fun p96 c96 hp96 hc96 hR96 => ?_)
          obtain ⟨u96, rfl, hx96⟩ := hR96
          obtain ⟨A96, q96, rfl⟩ := LstR.slice hx96
          refine A_take 8 rfl (by kernel_rfl) rfl hs (Y_ldG Tryz.isAgg24 rfl (gcell_0 (hp96 0 _ rfl)) ?_)
          have hle := hs.le
          refine A_only 9 rfl (by kernel_rfl) rfl (S_call (H1 := []) hs rfl Tryz.func22 rfl (by kernel_rfl) (run_ok (n := ⟨8, noC, 0, 0, 1, -1⟩) hx96 noC_ok (by omega)) fun v11 G' H' _ hR hG98 hs => ?_)
          obtain ⟨rfl, hU⟩ := hR
          replace hs : St _ _ [_] _ := hs
          replace hst := hst.mono hG98
          replace hx96 := hx96.mono hG98
          refine A_moreS hs hle hG98 (List.Sublist.refl _) ?_
          have hle := hs.le
          refine A_only 10 rfl (by kernel_rfl) rfl (S_call (H1 := []) hs rfl Tryz.func54 rfl (by kernel_rfl) (rstk_ok (n := n1) hst hU (by omega) (by omega)) fun v12 G' H' _ hR hG99 hs => ?_)
          obtain ⟨rfl, hV⟩ := hR
          replace hs : St _ _ [_] _ := hs
          replace hst := hst.mono hG99
          replace hx96 := hx96.mono hG99
          replace hU := hU.mono hG99
          refine A_moreS hs hle hG99 (List.Sublist.refl _) ?_
          refine A_take 11 rfl (by kernel_rfl) rfl hs (Y_assign rfl ?_)
          refine A_done (by kernel_rfl) (T_kp [4] rfl ?_)
          refine T_ret ?_
          refine Rt_fin (vs := [_]) Tryz.results37 rfl ⟨rfl, trivial⟩ ?_
          try dsimp only [tup]
          exact ⟨_, [], hs.done, rfl, _, hV, push_un hf hn1 (.inr ⟨_, _, rfl, by omega, by omega, by omega, by omega⟩), fun h5 h6 => absurd h5 (fun h5 => by subst h5; simp at hkb; omega)⟩
         ·
          dsimp only [cmpP] at h72
          refine O_a rfl ?_
          refine O_nil (T_kp [0, 5, 7, 9, 67, 71] rfl ?_)
          refine T_condF rfl (T_seq (T_region rfl ?_))
          refine O_y hs (Y_cmpS rfl rfl rfl (fun h75 => ?_) (fun h75 => ?_))
          ·
           dsimp only [cmpP] at h75
           refine O_a rfl ?_
           refine O_nil (T_kp [0, 5, 7, 9, 67, 74] rfl ?_)
           refine T_condT rfl (T_region rfl ?_)
           refine O_y hs (Y_fieldAddr FO42_5 rfl (m := 8) rfl ?_)
           refine O_n (S_st hs Tryz.sizeOf3 rfl rfl rfl (by simp) (cs' := [_, _, _, _, _, _, _, _, _]) rfl fun _ hs => ?_)
           refine O_nil (T_kp [0, 5, 9] rfl ?_)
           refine T_seq (T_drawS [0, 1, 2, 3, 4, 5, 6, 7, 8, 9, 10, 11] hs (by kernel_rfl) ?_)
           replace hs := hs.drew
           refine A_take 0 rfl (by kernel_rfl) rfl hs (Y_move rfl ?_)
           refine A_take 1 rfl (by kernel_rfl) rfl hs (Y_move rfl ?_)
           refine A_take 2 rfl (by kernel_rfl) rfl hs (Y_sub (c := (n1 : Int)) rfl rfl (by omega) (by omega) ?_)
           refine A_take 3 rfl (by kernel_rfl) rfl hs (Y_ldA 0 Tryz.isAgg42 Tryz.sizeOf42 rfl rfl (vs := [_, _, _, _, _, _, _, _, _]) rfl rfl ?_)
           refine A_take 4 rfl (by kernel_rfl) rfl hs (Y_move rfl ?_)
           refine A_take 5 rfl (by kernel_rfl) rfl hs (Y_move rfl ?_)
           refine A_take 6 rfl (by kernel_rfl) rfl hs (Y_sub (c := (n1 : Int)) rfl rfl (by omega) (by omega) ?_)
           refine A_take 7 rfl (by kernel_rfl) rfl hs (Y_idxS hst n1 Tryz.underlying63 Tryz.sizeOf24 rfl rfl rfl (by omega) fun p96 c96 hp96 hc96 hR96 => ?_)
           obtain ⟨u96, rfl, hx96⟩ := hR96
           obtain ⟨A96, q96, rfl⟩ := LstR.slice hx96
           refine A_take 8 rfl (by kernel_rfl) rfl hs (Y_ldG Tryz.isAgg24 rfl (gcell_0 (hp96 0 _ rfl)) ?_)
           have hle := hs.le
           refine A_only 9 rfl (by kernel_rfl) rfl (S_call (H1 := []) hs rfl Tryz.func22 rfl (by kernel_rfl) (run_ok (n := ⟨8, noC, 0, 0, 0, 1⟩) hx96 noC_ok (by omega)) fun v13 G' H' _ hR hG98 hs => ?_)
           obtain ⟨rfl, hU⟩ := hR
           replace hs : St _ _ [_] _ := hs
           replace hst := hst.mono hG98
           replace hx96 := hx96.mono hG98
           refine A_moreS hs hle hG98 (List.Sublist.refl _) ?_
           have hle := hs.le
           refine A_only 10 rfl (by kernel_rfl) rfl (S_call (H1 := []) hs rfl Tryz.func54 rfl (by kernel_rfl) (rstk_ok (n := n1) hst hU (by omega) (by omega)) fun v14 G' H' _ hR hG99 hs => ?_)
           obtain ⟨rfl, hV⟩ := hR
           replace hs : St _ _ [_] _ := hs
           replace hst := hst.mono hG99
           replace hx96 := hx96.mono hG99
           replace hU := hU.mono hG99
           refine A_moreS hs hle hG99 (List.Sublist.refl _) ?_
           refine A_take 11 rfl (by kernel_rfl) rfl hs (Y_assign rfl ?_)
           refine A_done (by kernel_rfl) (T_kp [4] rfl ?_)
           refine T_ret ?_
           refine Rt_fin (vs := [_]) Tryz.results37 rfl ⟨rfl, trivial⟩ ?_
           try dsimp only [tup]
           exact ⟨_, [], hs.done, rfl, _, hV, push_un hf hn1 (.inr ⟨_, _, rfl, by omega, by omega, by omega, by omega⟩), fun h5 h6 => absurd h5 (fun h5 => by subst h5; simp at hkb; omega)⟩
          ·
           dsimp only [cmpP] at h75
           refine O_a rfl ?_
           refine O_nil (T_kp [0, 5, 7, 9, 67, 74] rfl ?_)
           refine T_condF rfl (T_seq (T_region rfl ?_))
           refine O_y hs (Y_cmpS rfl rfl rfl (fun h78 => ?_) (fun h78 => ?_))
           ·
            dsimp only [cmpP] at h78
            refine O_a rfl ?_
            refine O_nil (T_kp [0, 5, 7, 9, 77] rfl ?_)
            refine T_condT rfl (T_seq (T_region rfl ?_))
            refine O_m rfl ?_
            refine O_y hs (Y_rem (c := ((a % 3 : Nat) : Int)) rfl rfl (by omega) (by omega) (by omega) ?_)
            refine O_y hs (Y_fieldAddr FO42_4 rfl (m := 7) rfl ?_)
            refine O_n (S_st hs Tryz.sizeOf3 rfl rfl rfl (by simp) (cs' := [_, _, _, _, _, _, _, _, _]) rfl fun _ hs => ?_)
            refine O_nil (T_kp [0, 5, 7, 9] rfl ?_)
            refine T_region rfl ?_
            refine O_m rfl ?_
            refine O_y hs (Y_rem (c := ((a % 3 : Nat) : Int)) rfl rfl (by omega) (by omega) (by omega) ?_)
            refine O_m rfl ?_
            refine O_y hs (Y_quo (c := ((a / 3 : Nat) : Int)) rfl rfl (by omega) (by omega) (by omega) ?_)
            refine O_y hs (Y_rem (c := ((a / 3 % 3 : Nat) : Int)) rfl rfl (by omega) (by omega) (by omega) ?_)
            refine O_y hs (Y_add (c := ((a % 3 + a / 3 % 3 : Nat) : Int)) rfl rfl (by omega) (by omega) ?_)
            refine O_y hs (Y_fieldAddr FO42_5 rfl (m := 8) rfl ?_)
            refine O_n (S_st hs Tryz.sizeOf3 rfl rfl rfl (by simp) (cs' := [_, _, _, _, _, _, _, _, _]) rfl fun _ hs => ?_)
            refine O_nil (T_kp [0, 5, 9] rfl ?_)
            refine T_seq (T_drawS [0, 1, 2, 3, 4, 5, 6, 7, 8, 9, 10, 11] hs (by kernel_rfl) ?_)
            replace hs := hs.drew
            refine A_take 0 rfl (by kernel_rfl) rfl hs (Y_move rfl ?_)
            refine A_take 1 rfl (by kernel_rfl) rfl hs (Y_move rfl ?_)
            refine A_take 2 rfl (by kernel_rfl) rfl hs (Y_sub (c := (n1 : Int)) rfl rfl (by omega) (by omega) ?_)
            refine A_take 3 rfl (by kernel_rfl) rfl hs (Y_ldA 0 Tryz.isAgg42 Tryz.sizeOf42 rfl rfl (vs := [_, _, _, _, _, _, _, _, _]) rfl rfl ?_)
            refine A_take 4 rfl (by kernel_rfl) rfl hs (Y_move rfl ?_)
            refine A_take 5 rfl (by kernel_rfl) rfl hs (Y_move rfl ?_)
            refine A_take 6 rfl (by kernel_rfl) rfl hs (Y_sub (c := (n1 : Int)) rfl rfl (by omega) (by omega) ?_)
            refine A_take 7 rfl (by kernel_rfl) rfl hs (Y_idxS hst n1 Tryz.underlying63 Tryz.sizeOf24 rfl rfl rfl (by omega) fun p96 c96 hp96 hc96 hR96 => ?_)
            obtain ⟨u96, rfl, hx96⟩ := hR96
            obtain ⟨A96, q96, rfl⟩ := LstR.slice hx96
            refine A_take 8 rfl (by kernel_rfl) rfl hs (Y_ldG Tryz.isAgg24 rfl (gcell_0 (hp96 0 _ rfl)) ?_)
            have hle := hs.le
            refine A_only 9 rfl (by kernel_rfl) rfl (S_call (H1 := []) hs rfl Tryz.func22 rfl (by kernel_rfl) (run_ok (n := ⟨8, noC, 0, 0, ((a % 3 : Nat) : Int), ((a % 3 + a / 3 % 3 : Nat) : Int)⟩) hx96 noC_ok (by omega)) fun v15 G' H' _ hR hG98 hs => ?_)
            obtain ⟨rfl, hU⟩ := hR
            replace hs : St _ _ [_] _ := hs
            replace hst := hst.mono hG98
            replace hx96 := hx96.mono hG98
            refine A_moreS hs hle hG98 (List.Sublist.refl _) ?_
            have hle := hs.le
            refine A_only 10 rfl (by kernel_rfl) rfl (S_call (H1 := []) hs rfl Tryz.func54 rfl (by kernel_rfl) (rstk_ok (n := n1) hst hU (by omega) (by omega)) fun v16 G' H' _ hR hG99 hs => ?_)
            obtain ⟨rfl, hV⟩ := hR
            replace hs : St _ _ [_] _ := hs
            replace hst := hst.mono hG99
            replace hx96 := hx96.mono hG99
            replace hU := hU.mono hG99
            refine A_moreS hs hle hG99 (List.Sublist.refl _) ?_
            refine A_take 11 rfl (by kernel_rfl) rfl hs (Y_assign rfl ?_)
            refine A_done (by kernel_rfl) (T_kp [4] rfl ?_)
            refine T_ret ?_
            refine Rt_fin (vs := [_]) Tryz.results37 rfl ⟨rfl, trivial⟩ ?_
            try dsimp only [tup]
            exact ⟨_, [], hs.done, rfl, _, hV, push_un hf hn1 (.inr ⟨_, _, rfl, by omega, by omega, by omega, by omega⟩), fun h5 h6 => absurd h5 (fun h5 => by subst h5; simp at hkb; omega)⟩
           ·
            dsimp only [cmpP] at h78
            refine O_a rfl ?_
            refine O_nil (T_kp [0, 5, 7, 9, 77] rfl ?_)
            refine T_condF rfl (T_skip ?_)
            refine T_seq (T_drawS [0, 1, 2, 3, 4, 5, 6, 7, 8, 9, 10, 11] hs (by kernel_rfl) ?_)
            replace hs := hs.drew
            refine A_take 0 rfl (by kernel_rfl) rfl hs (Y_move rfl ?_)
            refine A_take 1 rfl (by kernel_rfl) rfl hs (Y_move rfl ?_)
            refine A_take 2 rfl (by kernel_rfl) rfl hs (Y_sub (c := (n1 : Int)) rfl rfl (by omega) (by omega) ?_)
            refine A_take 3 rfl (by kernel_rfl) rfl hs (Y_ldA 0 Tryz.isAgg42 Tryz.sizeOf42 rfl rfl (vs := [_, _, _, _, _, _, _, _, _]) rfl rfl ?_)
            refine A_take 4 rfl (by kernel_rfl) rfl hs (Y_move rfl ?_)
            refine A_take 5 rfl (by kernel_rfl) rfl hs (Y_move rfl ?_)
            refine A_take 6 rfl (by kernel_rfl) rfl hs (Y_sub (c := (n1 : Int)) rfl rfl (by omega) (by omega) ?_)
            refine A_take 7 rfl (by kernel_rfl) rfl hs (Y_idxS hst n1 Tryz.underlying63 Tryz.sizeOf24 rfl rfl rfl (by omega) fun p96 c96 hp96 hc96 hR96 => ?_)
            obtain ⟨u96, rfl, hx96⟩ := hR96
            obtain ⟨A96, q96, rfl⟩ := LstR.slice hx96
            refine A_take 8 rfl (by kernel_rfl) rfl hs (Y_ldG Tryz.isAgg24 rfl (gcell_0 (hp96 0 _ rfl)) ?_)
            have hle := hs.le
            refine A_only 9 rfl (by kernel_rfl) rfl (S_call (H1 := []) hs rfl Tryz.func22 rfl (by kernel_rfl) (run_ok (n := ⟨8, noC, 0, 0, 0, -1⟩) hx96 noC_ok (by omega)) fun v17 G' H' _ hR hG98 hs => ?_)
            obtain ⟨rfl, hU⟩ := hR
            replace hs : St _ _ [_] _ := hs
            replace hst := hst.mono hG98
            replace hx96 := hx96.mono hG98
            refine A_moreS hs hle hG98 (List.Sublist.refl _) ?_
            have hle := hs.le
            refine A_only 10 rfl (by kernel_rfl) rfl (S_call (H1 := []) hs rfl Tryz.func54 rfl (by kernel_rfl) (rstk_ok (n := n1) hst hU (by omega) (by omega)) fun v18 G' H' _ hR hG99 hs => ?_)
            obtain ⟨rfl, hV⟩ := hR
            replace hs : St _ _ [_] _ := hs
            replace hst := hst.mono hG99
            replace hx96 := hx96.mono hG99
            replace hU := hU.mono hG99
            refine A_moreS hs hle hG99 (List.Sublist.refl _) ?_
            refine A_take 11 rfl (by kernel_rfl) rfl hs (Y_assign rfl ?_)
            refine A_done (by kernel_rfl) (T_kp [4] rfl ?_)
            refine T_ret ?_
            refine Rt_fin (vs := [_]) Tryz.results37 rfl ⟨rfl, trivial⟩ ?_
            try dsimp only [tup]
            exact ⟨_, [], hs.done, rfl, _, hV, push_un hf hn1 (.inr ⟨_, _, rfl, by omega, by omega, by omega, by omega⟩), fun h5 h6 => absurd h5 (fun h5 => by subst h5; simp at hkb; omega)⟩
       ·
        dsimp only [cmpP] at h64
        refine O_y hs (Y_pickT rfl rfl ?_)
        refine O_nil (T_kp [0, 5, 6, 7, 65] rfl ?_)
        refine T_condF rfl (T_skip ?_)
        refine T_seq (T_region rfl ?_)
        refine O_m rfl ?_
        refine O_m rfl ?_
        refine O_m rfl ?_
        refine O_m rfl ?_
        refine O_s (S_call (H1 := []) hs rfl Tryz.func55 rfl (by kernel_rfl) (leaf_ok (k := k) (a := a) (by omega) (by omega)) fun v19 G' H' _ hR hG104 hs => ?_)
        obtain ⟨rfl, rfl⟩ := hR
        replace hs : St _ _ [] _ := hs
        replace hst := hst.mono hG104
        obtain ⟨nk, hnk⟩ : ∃ n, n = leafF k a := ⟨_, rfl⟩
        have hcn : ClsOk nk.c := by rw [hnk]; exact (leaf_tree (k := k) (a := a) (by omega)).cls _ (by simp)
        rw [← hnk]
        obtain ⟨kd, cc, ll, rr, mn, mx⟩ := nk
        obtain ⟨c0, c1, c2, c3, rfl⟩ := four_of hcn.1
        refine O_s (S_lit hs Tryz.underlying24 Tryz.sizeOf42 Tryz.zeroValue42 rfl rfl (by decide) (by decide) rfl (cs := [_, _, _, _, _, _, _, _, _]) rfl rfl fun v20 _ hs _ => ?_)
        obtain ⟨_, hG105, hl105, hs⟩ := hs.fixRow noM
        replace hst := hst.mono hG105
        refine O_s (S_call (H1 := []) hs rfl Tryz.func54 rfl (by kernel_rfl) (rstk_ok (l := [⟨kd, [c0, c1, c2, c3], ll, rr, mn, mx⟩]) (n := st.length) hst (rx_row (n := 0) hl105 rfl rfl (fun m hm => by rw [List.mem_singleton] at hm; rw [hm]; exact hcn)) (Nat.le_refl _) (by omega)) fun v21 G' H' _ hR hG106 hs => ?_)
        obtain ⟨rfl, hV⟩ := hR
        replace hs : St _ _ [] _ := hs
        replace hst := hst.mono hG106
        replace hl105 := hl105.mono hG106
        refine O_a rfl ?_
        refine O_nil (T_kp [4] rfl ?_)
        refine T_ret ?_
        refine Rt_fin (vs := [_]) Tryz.results37 rfl ⟨rfl, trivial⟩ ?_
        try dsimp only [tup]
        exact ⟨_, [], hs.done, rfl, _, hV, push_leaf hf (hnk ▸ leaf_tree (k := k) (by omega)) rfl, fun h5 h6 => absurd h5 (fun h5 => by subst h5; simp at hkb; omega)⟩
      ·
       dsimp only [cmpP] at h60
       refine O_y hs (Y_pickT rfl rfl ?_)
       refine O_m rfl ?_
       refine O_no 62 rfl rfl ?_
       refine O_no 62 rfl rfl ?_
       refine O_y hs (Y_pickF rfl rfl ?_)
       refine O_nil (T_kp [0, 5, 6, 7, 65] rfl ?_)
       refine T_condF rfl (T_skip ?_)
       refine T_seq (T_region rfl ?_)
       refine O_m rfl ?_
       refine O_m rfl ?_
       refine O_m rfl ?_
       refine O_m rfl ?_
       refine O_s (S_call (H1 := []) hs rfl Tryz.func55 rfl (by kernel_rfl) (leaf_ok (k := k) (a := a) (by omega) (by omega)) fun v22 G' H' _ hR hG104 hs => ?_)
       obtain ⟨rfl, rfl⟩ := hR
       replace hs : St _ _ [] _ := hs
       replace hst := hst.mono hG104
       obtain ⟨nk, hnk⟩ : ∃ n, n = leafF k a := ⟨_, rfl⟩
       have hcn : ClsOk nk.c := by rw [hnk]; exact (leaf_tree (k := k) (a := a) (by omega)).cls _ (by simp)
       rw [← hnk]
       obtain ⟨kd, cc, ll, rr, mn, mx⟩ := nk
       obtain ⟨c0, c1, c2, c3, rfl⟩ := four_of hcn.1
       refine O_s (S_lit hs Tryz.underlying24 Tryz.sizeOf42 Tryz.zeroValue42 rfl rfl (by decide) (by decide) rfl (cs := [_, _, _, _, _, _, _, _, _]) rfl rfl fun v23 _ hs _ => ?_)
       obtain ⟨_, hG105, hl105, hs⟩ := hs.fixRow noM
       replace hst := hst.mono hG105
       refine O_s (S_call (H1 := []) hs rfl Tryz.func54 rfl (by kernel_rfl) (rstk_ok (l := [⟨kd, [c0, c1, c2, c3], ll, rr, mn, mx⟩]) (n := st.length) hst (rx_row (n := 0) hl105 rfl rfl (fun m hm => by rw [List.mem_singleton] at hm; rw [hm]; exact hcn)) (Nat.le_refl _) (by omega)) fun v24 G' H' _ hR hG106 hs => ?_)
       obtain ⟨rfl, hV⟩ := hR
       replace hs : St _ _ [] _ := hs
       replace hst := hst.mono hG106
       replace hl105 := hl105.mono hG106
       refine O_a rfl ?_
       refine O_nil (T_kp [4] rfl ?_)
       refine T_ret ?_
       refine Rt_fin (vs := [_]) Tryz.results37 rfl ⟨rfl, trivial⟩ ?_
       try dsimp only [tup]
       exact ⟨_, [], hs.done, rfl, _, hV, push_leaf hf (hnk ▸ leaf_tree (k := k) (by omega)) rfl, fun h5 h6 => absurd h5 (fun h5 => by subst h5; simp at hkb; omega)⟩
 ·
  dsimp only [cmpP] at h19
  refine O_m rfl ?_
  refine O_no 20 rfl rfl ?_
  refine O_no 20 rfl rfl ?_
  refine O_no 20 rfl rfl ?_
  refine O_noU 23 rfl rfl ?_
  refine O_noU 23 rfl rfl ?_
  refine O_no 20 rfl rfl ?_
  refine O_no 20 rfl rfl ?_
  refine O_noU 27 rfl rfl ?_
  refine O_noU 27 rfl rfl ?_
  refine O_no 20 rfl rfl ?_
  refine O_no 20 rfl rfl ?_
  refine O_noU 31 rfl rfl ?_
  refine O_noU 31 rfl rfl ?_
  refine O_no 20 rfl rfl ?_
  refine O_y hs (Y_pickF rfl rfl ?_)
  refine O_nil (T_kp [0, 5, 6, 7, 35] rfl ?_)
  refine T_condF rfl (T_skip ?_)
  refine T_seq (T_seq (T_region rfl ?_))
  refine O_m rfl ?_
  refine O_y hs (Y_cmpS rfl rfl rfl (fun h57 => ?_) (fun h57 => ?_))
  ·
   dsimp only [cmpP] at h57
   refine O_m rfl ?_
   refine O_yy 58 hs rfl rfl (Y_move rfl ?_)
   refine O_yy 58 hs rfl rfl (Y_cmpS rfl rfl rfl (fun h60 => ?_) (fun h60 => ?_))
   ·
    dsimp only [cmpP] at h60
    refine O_y hs (Y_pickT rfl rfl ?_)
    refine O_m rfl ?_
    refine O_yy 62 hs rfl rfl (Y_move rfl ?_)
    refine O_yy 62 hs rfl rfl (Y_cmpS rfl rfl rfl (fun h64 => ?_) (fun h64 => ?_))
    ·
     dsimp only [cmpP] at h64
     refine O_y hs (Y_pickT rfl rfl ?_)
     refine O_nil (T_kp [0, 5, 6, 7, 65] rfl ?_)
     obtain ⟨n1, hn1⟩ : ∃ n1, st.length = n1 + 1 := ⟨st.length - 1, by omega⟩
     have hle96 := total_le (st := st) (i := n1) (by omega)
     refine T_condT rfl (T_seq (T_region rfl ?_))
     refine O_y hs (Y_build Tryz.zeroValue42 rfl PL42 rfl (cs := [_, _, _, _, _, _, _, _, _]) rfl ?_)
     refine O_s (S_alloc hs Tryz.zeroValue42 (cs := [_, _, _, _, _, _, _, _, _]) rfl fun b9 _ hs => ?_)
     refine O_n (S_stA hs Tryz.sizeOf42 rfl rfl (vs := [_, _, _, _, _, _, _, _, _]) rfl (rfl) (by simp) (cs' := [_, _, _, _, _, _, _, _, _]) rfl fun _ hs => ?_)
     refine O_nil (T_kp [0, 5, 6, 7, 9] rfl ?_)
     refine T_seq (T_seq (T_region rfl ?_))
     refine O_m rfl ?_
     refine O_nil (T_kp [0, 5, 7, 9, 67] rfl ?_)
     refine T_block (T_seq (T_region rfl ?_))
     refine O_y hs (Y_cmpS rfl rfl rfl (fun h69 => ?_) (fun h69 => ?_))
     ·
      dsimp only [cmpP] at h69
      refine O_a rfl ?_
      refine O_nil (T_kp [0, 5, 7, 9, 67, 68] rfl ?_)
      refine T_condT rfl (T_region rfl ?_)
      refine O_y hs (Y_build Tryz.zeroValue42 rfl PL42 rfl (cs := [_, _, _, _, _, _, _, _, _]) rfl ?_)
      refine O_n (S_stA hs Tryz.sizeOf42 rfl rfl (vs := [_, _, _, _, _, _, _, _, _]) rfl (rfl) (by simp) (cs' := [_, _, _, _, _, _, _, _, _]) rfl fun _ hs => ?_)
      refine O_nil (T_kp [0, 5, 9] rfl ?_)
      refine T_seq (T_drawS [0, 1, 2, 3, 4, 5, 6, 7, 8, 9, 10, 11] hs (by kernel_rfl) ?_)
      replace hs := hs.drew
      refine A_take 0 rfl (by kernel_rfl) rfl hs (Y_move rfl ?_)
      refine A_take 1 rfl (by kernel_rfl) rfl hs (Y_move rfl ?_)
      refine A_take 2 rfl (by kernel_rfl) rfl hs (Y_sub (c := (n1 : Int)) rfl rfl (by omega) (by omega) ?_)
      refine A_take 3 rfl (by kernel_rfl) rfl hs (Y_ldA 0 Tryz.isAgg42 Tryz.sizeOf42 rfl rfl (vs := [_, _, _, _, _, _, _, _, _]) rfl rfl ?_)
      refine A_take 4 rfl (by kernel_rfl) rfl hs (Y_move rfl ?_)
      refine A_take 5 rfl (by kernel_rfl) rfl hs (Y_move rfl ?_)
      refine A_take 6 rfl (by kernel_rfl) rfl hs (Y_sub (c := (n1 : Int)) rfl rfl (by omega) (by omega) ?_)
      refine A_take 7 rfl (by kernel_rfl) rfl hs (Y_idxS hst n1 Tryz.underlying63 Tryz.sizeOf24 rfl rfl rfl (by omega) fun p96 c96 hp96 hc96 hR96 => ?_)
      obtain ⟨u96, rfl, hx96⟩ := hR96
      obtain ⟨A96, q96, rfl⟩ := LstR.slice hx96
      refine A_take 8 rfl (by kernel_rfl) rfl hs (Y_ldG Tryz.isAgg24 rfl (gcell_0 (hp96 0 _ rfl)) ?_)
      have hle := hs.le
      refine A_only 9 rfl (by kernel_rfl) rfl (S_call (H1 := []) hs rfl Tryz.func22 rfl (by kernel_rfl) (run_ok (n := ⟨7, noC, 0, 0, 0, 0⟩) hx96 noC_ok (by omega)) fun v25 G' H' _ hR hG98 hs => ?_)
      obtain ⟨rfl, hU⟩ := hR
      replace hs : St _ _ [_] _ := hs
      replace hst := hst.mono hG98
      replace hx96 := hx96.mono hG98
      refine A_moreS hs hle hG98 (List.Sublist.refl _) ?_
      have hle := hs.le
      refine A_only 10 rfl (by kernel_rfl) rfl (S_call (H1 := []) hs rfl Tryz.func54 rfl (by kernel_rfl) (rstk_ok (n := n1) hst hU (by omega) (by omega)) fun v26 G' H' _ hR hG99 hs => ?_)
      obtain ⟨rfl, hV⟩ := hR
      replace hs : St _ _ [_] _ := hs
      replace hst := hst.mono hG99
      replace hx96 := hx96.mono hG99
      replace hU := hU.mono hG99
      refine A_moreS hs hle hG99 (List.Sublist.refl _) ?_
      refine A_take 11 rfl (by kernel_rfl) rfl hs (Y_assign rfl ?_)
      refine A_done (by kernel_rfl) (T_kp [4] rfl ?_)
      refine T_ret ?_
      refine Rt_fin (vs := [_]) Tryz.results37 rfl ⟨rfl, trivial⟩ ?_
      try dsimp only [tup]
      exact ⟨_, [], hs.done, rfl, _, hV, push_un hf hn1 (.inl rfl), fun h5 h6 => absurd h5 (fun h5 => by subst h5; simp at hkb; omega)⟩
     ·
      dsimp only [cmpP] at h69
      refine O_a rfl ?_
      refine O_nil (T_kp [0, 5, 7, 9, 67, 68] rfl ?_)
      refine T_condF rfl (T_seq (T_region rfl ?_))
      refine O_y hs (Y_cmpS rfl rfl rfl (fun h72 => ?_) (fun h72 => ?_))
      ·
       dsimp only [cmpP] at h72
       refine O_a rfl ?_
       refine O_nil (T_kp [0, 5, 7, 9, 67, 71] rfl ?_)
       refine T_condT rfl (T_region rfl ?_)
       refine O_y hs (Y_fieldAddr FO42_4 rfl (m := 7) rfl ?_)
       refine O_n (S_st hs Tryz.sizeOf3 rfl rfl rfl (by simp) (cs' := [_, _, _, _, _, _, _, _, _]) rfl fun _ hs => ?_)
       refine O_nil (T_kp [0, 5, 9] rfl ?_)
       refine T_seq (T_drawS [0, 1, 2, 3, 4, 5, 6, 7, 8, 9, 10, 11] hs (by kernel_rfl) ?_)
       replace hs := hs.drew
       refine A_take 0 rfl (by kernel_rfl) rfl hs (Y_move rfl ?_)
       refine A_take 1 rfl (by kernel_rfl) rfl hs (Y_move rfl ?_)
       refine A_take 2 rfl (by kernel_rfl) rfl hs (Y_sub (c := (n1 : Int)) rfl rfl (by omega) (by omega) ?_)
       refine A_take 3 rfl (by kernel_rfl) rfl hs (Y_ldA 0 Tryz.isAgg42 Tryz.sizeOf42 rfl rfl (vs := [_, _, _, _, _, _, _, _, _]) rfl rfl ?_)
       refine A_take 4 rfl (by kernel_rfl) rfl hs (Y_move rfl ?_)
       refine A_take 5 rfl (by kernel_rfl) rfl hs (Y_move rfl ?_)
       refine A_take 6 rfl (by kernel_rfl) rfl hs (Y_sub (c := (n1 : Int)) rfl rfl (by omega) (by omega) ?_)
       refine A_take 7 rfl (by kernel_rfl) rfl hs (Y_idxS hst n1 Tryz.underlying63 Tryz.sizeOf24 rfl rfl rfl (by omega) fun p96 c96 hp96 hc96 hR96 => ?_)
       obtain ⟨u96, rfl, hx96⟩ := hR96
       obtain ⟨A96, q96, rfl⟩ := LstR.slice hx96
       refine A_take 8 rfl (by kernel_rfl) rfl hs (Y_ldG Tryz.isAgg24 rfl (gcell_0 (hp96 0 _ rfl)) ?_)
       have hle := hs.le
       refine A_only 9 rfl (by kernel_rfl) rfl (S_call (H1 := []) hs rfl Tryz.func22 rfl (by kernel_rfl) (run_ok (n := ⟨8, noC, 0, 0, 1, -1⟩) hx96 noC_ok (by omega)) fun v27 G' H' _ hR hG98 hs => ?_)
       obtain ⟨rfl, hU⟩ := hR
       replace hs : St _ _ [_] _ := hs
       replace hst := hst.mono hG98
       replace hx96 := hx96.mono hG98
       refine A_moreS hs hle hG98 (List.Sublist.refl _) ?_
       have hle := hs.le
       refine A_only 10 rfl (by kernel_rfl) rfl (S_call (H1 := []) hs rfl Tryz.func54 rfl (by kernel_rfl) (rstk_ok (n := n1) hst hU (by omega) (by omega)) fun v28 G' H' _ hR hG99 hs => ?_)
       obtain ⟨rfl, hV⟩ := hR
       replace hs : St _ _ [_] _ := hs
       replace hst := hst.mono hG99
       replace hx96 := hx96.mono hG99
       replace hU := hU.mono hG99
       refine A_moreS hs hle hG99 (List.Sublist.refl _) ?_
       refine A_take 11 rfl (by kernel_rfl) rfl hs (Y_assign rfl ?_)
       refine A_done (by kernel_rfl) (T_kp [4] rfl ?_)
       refine T_ret ?_
       refine Rt_fin (vs := [_]) Tryz.results37 rfl ⟨rfl, trivial⟩ ?_
       try dsimp only [tup]
       exact ⟨_, [], hs.done, rfl, _, hV, push_un hf hn1 (.inr ⟨_, _, rfl, by omega, by omega, by omega, by omega⟩), fun h5 h6 => absurd h5 (fun h5 => by subst h5; simp at hkb; omega)⟩
      ·
       dsimp only [cmpP] at h72
       refine O_a rfl ?_
       refine O_nil (T_kp [0, 5, 7, 9, 67, 71] rfl ?_)
       refine T_condF rfl (T_seq (T_region rfl ?_))
       refine O_y hs (Y_cmpS rfl rfl rfl (fun h75 => ?_) (fun h75 => ?_))
       ·
        dsimp only [cmpP] at h75
        refine O_a rfl ?_
        refine O_nil (T_kp [0, 5, 7, 9, 67, 74] rfl ?_)
        refine T_condT rfl (T_region rfl ?_)
        refine O_y hs (Y_fieldAddr FO42_5 rfl (m := 8) rfl ?_)
        refine O_n (S_st hs Tryz.sizeOf3 rfl rfl rfl (by simp) (cs' := [_, _, _, _, _, _, _, _, _]) rfl fun _ hs => ?_)
        refine O_nil (T_kp [0, 5, 9] rfl ?_)
        refine T_seq (T_drawS [0, 1, 2, 3, 4, 5, 6, 7, 8, 9, 10, 11] hs (by kernel_rfl) ?_)
        replace hs := hs.drew
        refine A_take 0 rfl (by kernel_rfl) rfl hs (Y_move rfl ?_)
        refine A_take 1 rfl (by kernel_rfl) rfl hs (Y_move rfl ?_)
        refine A_take 2 rfl (by kernel_rfl) rfl hs (Y_sub (c := (n1 : Int)) rfl rfl (by omega) (by omega) ?_)
        refine A_take 3 rfl (by kernel_rfl) rfl hs (Y_ldA 0 Tryz.isAgg42 Tryz.sizeOf42 rfl rfl (vs := [_, _, _, _, _, _, _, _, _]) rfl rfl ?_)
        refine A_take 4 rfl (by kernel_rfl) rfl hs (Y_move rfl ?_)
        refine A_take 5 rfl (by kernel_rfl) rfl hs (Y_move rfl ?_)
        refine A_take 6 rfl (by kernel_rfl) rfl hs (Y_sub (c := (n1 : Int)) rfl rfl (by omega) (by omega) ?_)
        refine A_take 7 rfl (by kernel_rfl) rfl hs (Y_idxS hst n1 Tryz.underlying63 Tryz.sizeOf24 rfl rfl rfl (by omega) fun p96 c96 hp96 hc96 hR96 => ?_)
        obtain ⟨u96, rfl, hx96⟩ := hR96
        obtain ⟨A96, q96, rfl⟩ := LstR.slice hx96
        refine A_take 8 rfl (by kernel_rfl) rfl hs (Y_ldG Tryz.isAgg24 rfl (gcell_0 (hp96 0 _ rfl)) ?_)
        have hle := hs.le
        refine A_only 9 rfl (by kernel_rfl) rfl (S_call (H1 := []) hs rfl Tryz.func22 rfl (by kernel_rfl) (run_ok (n := ⟨8, noC, 0, 0, 0, 1⟩) hx96 noC_ok (by omega)) fun v29 G' H' _ hR hG98 hs => ?_)
        obtain ⟨rfl, hU⟩ := hR
        replace hs : St _ _ [_] _ := hs
        replace hst := hst.mono hG98
        replace hx96 := hx96.mono hG98
        refine A_moreS hs hle hG98 (List.Sublist.refl _) ?_
        have hle := hs.le
        refine A_only 10 rfl (by kernel_rfl) rfl (S_call (H1 := []) hs rfl Tryz.func54 rfl (by kernel_rfl) (rstk_ok (n := n1) hst hU (by omega) (by omega)) fun v30 G' H' _ hR hG99 hs => ?_)
        obtain ⟨rfl, hV⟩ := hR
        replace hs : St _ _ [_] _ := hs
        replace hst := hst.mono hG99
        replace hx96 := hx96.mono hG99
        replace hU := hU.mono hG99
        refine A_moreS hs hle hG99 (List.Sublist.refl _) ?_
        refine A_take 11 rfl (by kernel_rfl) rfl hs (Y_assign rfl ?_)
        refine A_done (by kernel_rfl) (T_kp [4] rfl ?_)
        refine T_ret ?_
        refine Rt_fin (vs := [_]) Tryz.results37 rfl ⟨rfl, trivial⟩ ?_
        try dsimp only [tup]
        exact ⟨_, [], hs.done, rfl, _, hV, push_un hf hn1 (.inr ⟨_, _, rfl, by omega, by omega, by omega, by omega⟩), fun h5 h6 => absurd h5 (fun h5 => by subst h5; simp at hkb; omega)⟩
       ·
        dsimp only [cmpP] at h75
        refine O_a rfl ?_
        refine O_nil (T_kp [0, 5, 7, 9, 67, 74] rfl ?_)
        refine T_condF rfl (T_seq (T_region rfl ?_))
        refine O_y hs (Y_cmpS rfl rfl rfl (fun h78 => ?_) (fun h78 => ?_))
        ·
         dsimp only [cmpP] at h78
         refine O_a rfl ?_
         refine O_nil (T_kp [0, 5, 7, 9, 77] rfl ?_)
         refine T_condT rfl (T_seq (T_region rfl ?_))
         refine O_m rfl ?_
         refine O_y hs (Y_rem (c := ((a % 3 : Nat) : Int)) rfl rfl (by omega) (by omega) (by omega) ?_)
         refine O_y hs (Y_fieldAddr FO42_4 rfl (m := 7) rfl ?_)
         refine O_n (S_st hs Tryz.sizeOf3 rfl rfl rfl (by simp) (cs' := [_, _, _, _, _, _, _, _, _]) rfl fun _ hs => ?_)
         refine O_nil (T_kp [0, 5, 7, 9] rfl ?_)
         refine T_region rfl ?_
         refine O_m rfl ?_
         refine O_y hs (Y_rem (c := ((a % 3 : Nat) : Int)) rfl rfl (by omega) (by omega) (by omega) ?_)
         refine O_m rfl ?_
         refine O_y hs (Y_quo (c := ((a / 3 : Nat) : Int)) rfl rfl (by omega) (by omega) (by omega) ?_)
         refine O_y hs (Y_rem (c := ((a / 3 % 3 : Nat) : Int)) rfl rfl (by omega) (by omega) (by omega) ?_)
         refine O_y hs (Y_add (c := ((a % 3 + a / 3 % 3 : Nat) : Int)) rfl rfl (by omega) (by omega) ?_)
         refine O_y hs (Y_fieldAddr FO42_5 rfl (m := 8) rfl ?_)
         refine O_n (S_st hs Tryz.sizeOf3 rfl rfl rfl (by simp) (cs' := [_, _, _, _, _, _, _, _, _]) rfl fun _ hs => ?_)
         refine O_nil (T_kp [0, 5, 9] rfl ?_)
         refine T_seq (T_drawS [0, 1, 2, 3, 4, 5, 6, 7, 8, 9, 10, 11] hs (by kernel_rfl) ?_)
         replace hs := hs.drew
         refine A_take 0 rfl (by kernel_rfl) rfl hs (Y_move rfl ?_)
         refine A_take 1 rfl (by kernel_rfl) rfl hs (Y_move rfl ?_)
         refine A_take 2 rfl (by kernel_rfl) rfl hs (Y_sub (c := (n1 : Int)) rfl rfl (by omega) (by omega) ?_)
         refine A_take 3 rfl (by kernel_rfl) rfl hs (Y_ldA 0 Tryz.isAgg42 Tryz.sizeOf42 rfl rfl (vs := [_, _, _, _, _, _, _, _, _]) rfl rfl ?_)
         refine A_take 4 rfl (by kernel_rfl) rfl hs (Y_move rfl ?_)
         refine A_take 5 rfl (by kernel_rfl) rfl hs (Y_move rfl ?_)
         refine A_take 6 rfl (by kernel_rfl) rfl hs (Y_sub (c := (n1 : Int)) rfl rfl (by omega) (by omega) ?_)
         refine A_take 7 rfl (by kernel_rfl) rfl hs (Y_idxS hst n1 Tryz.underlying63 Tryz.sizeOf24 rfl rfl rfl (by omega) fun p96 c96 hp96 hc96 hR96 => ?_)
         obtain ⟨u96, rfl, hx96⟩ := hR96
         obtain ⟨A96, q96, rfl⟩ := LstR.slice hx96
         refine A_take 8 rfl (by kernel_rfl) rfl hs (Y_ldG Tryz.isAgg24 rfl (gcell_0 (hp96 0 _ rfl)) ?_)
         have hle := hs.le
         refine A_only 9 rfl (by kernel_rfl) rfl (S_call (H1 := []) hs rfl Tryz.func22 rfl (by kernel_rfl) (run_ok (n := ⟨8, noC, 0, 0, ((a % 3 : Nat) : Int), ((a % 3 + a / 3 % 3 : Nat) : Int)⟩) hx96 noC_ok (by omega)) fun v31 G' H' _ hR hG98 hs => ?_)
         obtain ⟨rfl, hU⟩ := hR
         replace hs : St _ _ [_] _ := hs
         replace hst := hst.mono hG98
         replace hx96 := hx96.mono hG98
         refine A_moreS hs hle hG98 (List.Sublist.refl _) ?_
         have hle := hs.le
         refine A_only 10 rfl (by kernel_rfl) rfl (S_call (H1 := []) hs rfl Tryz.func54 rfl (by kernel_rfl) (rstk_ok (n := n1) hst hU (by omega) (by omega)) fun v32 G' H' _ hR hG99 hs => ?_)
         obtain ⟨rfl, hV⟩ := hR
         replace hs : St _ _ [_] _ := hs
         replace hst := hst.mono hG99
         replace hx96 := hx96.mono hG99
         replace hU := hU.mono hG99
         refine A_moreS hs hle hG99 (List.Sublist.refl _) ?_
         refine A_take 11 rfl (by kernel_rfl) rfl hs (Y_assign rfl ?_)
         refine A_done (by kernel_rfl) (T_kp [4] rfl ?_)
         refine T_ret ?_
         refine Rt_fin (vs := [_]) Tryz.results37 rfl ⟨rfl, trivial⟩ ?_
         try dsimp only [tup]
         exact ⟨_, [], hs.done, rfl, _, hV, push_un hf hn1 (.inr ⟨_, _, rfl, by omega, by omega, by omega, by omega⟩), fun h5 h6 => absurd h5 (fun h5 => by subst h5; simp at hkb; omega)⟩
        ·
         dsimp only [cmpP] at h78
         refine O_a rfl ?_
         refine O_nil (T_kp [0, 5, 7, 9, 77] rfl ?_)
         refine T_condF rfl (T_skip ?_)
         refine T_seq (T_drawS [0, 1, 2, 3, 4, 5, 6, 7, 8, 9, 10, 11] hs (by kernel_rfl) ?_)
         replace hs := hs.drew
         refine A_take 0 rfl (by kernel_rfl) rfl hs (Y_move rfl ?_)
         refine A_take 1 rfl (by kernel_rfl) rfl hs (Y_move rfl ?_)
         refine A_take 2 rfl (by kernel_rfl) rfl hs (Y_sub (c := (n1 : Int)) rfl rfl (by omega) (by omega) ?_)
         refine A_take 3 rfl (by kernel_rfl) rfl hs (Y_ldA 0 Tryz.isAgg42 Tryz.sizeOf42 rfl rfl (vs := [_, _, _, _, _, _, _, _, _]) rfl rfl ?_)
         refine A_take 4 rfl (by kernel_rfl) rfl hs (Y_move rfl ?_)
         refine A_take 5 rfl (by kernel_rfl) rfl hs (Y_move rfl ?_)
         refine A_take 6 rfl (by kernel_rfl) rfl hs (Y_sub (c := (n1 : Int)) rfl rfl (by omega) (by omega) ?_)
         refine A_take 7 rfl (by kernel_rfl) rfl hs (Y_idxS hst n1 Tryz.underlying63 Tryz.sizeOf24 rfl rfl rfl (by omega) fun p96 c96 hp96 hc96 hR96 => ?_)
         obtain ⟨u96, rfl, hx96⟩ := hR96
         obtain ⟨A96, q96, rfl⟩ := LstR.slice hx96
         refine A_take 8 rfl (by kernel_rfl) rfl hs (Y_ldG Tryz.isAgg24 rfl (gcell_0 (hp96 0 _ rfl)) ?_)
         have hle := hs.le
         refine A_only 9 rfl (by kernel_rfl) rfl (S_call (H1 := []) hs rfl Tryz.func22 rfl (by kernel_rfl) (run_ok (n := ⟨8, noC, 0, 0, 0, -1⟩) hx96 noC_ok (by omega)) fun v33 G' H' _ hR hG98 hs => ?_)
         obtain ⟨rfl, hU⟩ := hR
         replace hs : St _ _ [_] _ := hs
         replace hst := hst.mono hG98
         replace hx96 := hx96.mono hG98
         refine A_moreS hs hle hG98 (List.Sublist.refl _) ?_
         have hle := hs.le
         refine A_only 10 rfl (by kernel_rfl) rfl (S_call (H1 := []) hs rfl Tryz.func54 rfl (by kernel_rfl) (rstk_ok (n := n1) hst hU (by omega) (by omega)) fun v34 G' H' _ hR hG99 hs => ?_)
         obtain ⟨rfl, hV⟩ := hR
         replace hs : St _ _ [_] _ := hs
         replace hst := hst.mono hG99
         replace hx96 := hx96.mono hG99
         replace hU := hU.mono hG99
         refine A_moreS hs hle hG99 (List.Sublist.refl _) ?_
         refine A_take 11 rfl (by kernel_rfl) rfl hs (Y_assign rfl ?_)
         refine A_done (by kernel_rfl) (T_kp [4] rfl ?_)
         refine T_ret ?_
         refine Rt_fin (vs := [_]) Tryz.results37 rfl ⟨rfl, trivial⟩ ?_
         try dsimp only [tup]
         exact ⟨_, [], hs.done, rfl, _, hV, push_un hf hn1 (.inr ⟨_, _, rfl, by omega, by omega, by omega, by omega⟩), fun h5 h6 => absurd h5 (fun h5 => by subst h5; simp at hkb; omega)⟩
    ·
     dsimp only [cmpP] at h64
     refine O_y hs (Y_pickT rfl rfl ?_)
     refine O_nil (T_kp [0, 5, 6, 7, 65] rfl ?_)
     refine T_condF rfl (T_skip ?_)
     refine T_seq (T_region rfl ?_)
     refine O_m rfl ?_
     refine O_m rfl ?_
     refine O_m rfl ?_
     refine O_m rfl ?_
     refine O_s (S_call (H1 := []) hs rfl Tryz.func55 rfl (by kernel_rfl) (leaf_ok (k := k) (a := a) (by omega) (by omega)) fun v35 G' H' _ hR hG104 hs => ?_)
     obtain ⟨rfl, rfl⟩ := hR
     replace hs : St _ _ [] _ := hs
     replace hst := hst.mono hG104
     obtain ⟨nk, hnk⟩ : ∃ n, n = leafF k a := ⟨_, rfl⟩
     have hcn : ClsOk nk.c := by rw [hnk]; exact (leaf_tree (k := k) (a := a) (by omega)).cls _ (by simp)
     rw [← hnk]
     obtain ⟨kd, cc, ll, rr, mn, mx⟩ := nk
     obtain ⟨c0, c1, c2, c3, rfl⟩ := four_of hcn.1
     refine O_s (S_lit hs Tryz.underlying24 Tryz.sizeOf42 Tryz.zeroValue42 rfl rfl (by decide) (by decide) rfl (cs := [_, _, _, _, _, _, _, _, _]) rfl rfl fun v36 _ hs _ => ?_)
     obtain ⟨_, hG105, hl105, hs⟩ := hs.fixRow noM
     replace hst := hst.mono hG105
     refine O_s (S_call (H1 := []) hs rfl Tryz.func54 rfl (by kernel_rfl) (rstk_ok (l := [⟨kd, [c0, c1, c2, c3], ll, rr, mn, mx⟩]) (n := st.length) hst (rx_row (n := 0) hl105 rfl rfl (fun m hm => by rw [List.mem_singleton] at hm; rw [hm]; exact hcn)) (Nat.le_refl _) (by omega)) fun v37 G' H' _ hR hG106 hs => ?_)
     obtain ⟨rfl, hV⟩ := hR
     replace hs : St _ _ [] _ := hs
     replace hst := hst.mono hG106
     replace hl105 := hl105.mono hG106
     refine O_a rfl ?_
     refine O_nil (T_kp [4] rfl ?_)
     refine T_ret ?_
     refine Rt_fin (vs := [_]) Tryz.results37 rfl ⟨rfl, trivial⟩ ?_
     try dsimp only [tup]
     exact ⟨_, [], hs.done, rfl, _, hV, push_leaf hf (hnk ▸ leaf_tree (k := k) (by omega)) rfl, fun h5 h6 => absurd h5 (fun h5 => by subst h5; simp at hkb; omega)⟩
   ·
    dsimp only [cmpP] at h60
    refine O_y hs (Y_pickT rfl rfl ?_)
    refine O_m rfl ?_
    refine O_no 62 rfl rfl ?_
    refine O_no 62 rfl rfl ?_
    refine O_y hs (Y_pickF rfl rfl ?_)
    refine O_nil (T_kp [0, 5, 6, 7, 65] rfl ?_)
    refine T_condF rfl (T_skip ?_)
    refine T_seq (T_region rfl ?_)
    refine O_m rfl ?_
    refine O_m rfl ?_
    refine O_m rfl ?_
    refine O_m rfl ?_
    refine O_s (S_call (H1 := []) hs rfl Tryz.func55 rfl (by kernel_rfl) (leaf_ok (k := k) (a := a) (by omega) (by omega)) fun v38 G' H' _ hR hG104 hs => ?_)
    obtain ⟨rfl, rfl⟩ := hR
    replace hs : St _ _ [] _ := hs
    replace hst := hst.mono hG104
    obtain ⟨nk, hnk⟩ : ∃ n, n = leafF k a := ⟨_, rfl⟩
    have hcn : ClsOk nk.c := by rw [hnk]; exact (leaf_tree (k := k) (a := a) (by omega)).cls _ (by simp)
    rw [← hnk]
    obtain ⟨kd, cc, ll, rr, mn, mx⟩ := nk
    obtain ⟨c0, c1, c2, c3, rfl⟩ := four_of hcn.1
    refine O_s (S_lit hs Tryz.underlying24 Tryz.sizeOf42 Tryz.zeroValue42 rfl rfl (by decide) (by decide) rfl (cs := [_, _, _, _, _, _, _, _, _]) rfl rfl fun v39 _ hs _ => ?_)
    obtain ⟨_, hG105, hl105, hs⟩ := hs.fixRow noM
    replace hst := hst.mono hG105
    refine O_s (S_call (H1 := []) hs rfl Tryz.func54 rfl (by kernel_rfl) (rstk_ok (l := [⟨kd, [c0, c1, c2, c3], ll, rr, mn, mx⟩]) (n := st.length) hst (rx_row (n := 0) hl105 rfl rfl (fun m hm => by rw [List.mem_singleton] at hm; rw [hm]; exact hcn)) (Nat.le_refl _) (by omega)) fun v40 G' H' _ hR hG106 hs => ?_)
    obtain ⟨rfl, hV⟩ := hR
    replace hs : St _ _ [] _ := hs
    replace hst := hst.mono hG106
    replace hl105 := hl105.mono hG106
    refine O_a rfl ?_
    refine O_nil (T_kp [4] rfl ?_)
    refine T_ret ?_
    refine Rt_fin (vs := [_]) Tryz.results37 rfl ⟨rfl, trivial⟩ ?_
    try dsimp only [tup]
    exact ⟨_, [], hs.done, rfl, _, hV, push_leaf hf (hnk ▸ leaf_tree (k := k) (by omega)) rfl, fun h5 h6 => absurd h5 (fun h5 => by subst h5; simp at hkb; omega)⟩
  ·
   dsimp only [cmpP] at h57
   refine O_m rfl ?_
   refine O_no 58 rfl rfl ?_
   refine O_no 58 rfl rfl ?_
   refine O_y hs (Y_pickF rfl rfl ?_)
   refine O_m rfl ?_
   refine O_no 62 rfl rfl ?_
   refine O_no 62 rfl rfl ?_
   refine O_y hs (Y_pickF rfl rfl ?_)
   refine O_nil (T_kp [0, 5, 6, 7, 65] rfl ?_)
   refine T_condF rfl (T_skip ?_)
   refine T_seq (T_region rfl ?_)
   refine O_m rfl ?_
   refine O_m rfl ?_
   refine O_m rfl ?_
   refine O_m rfl ?_
   refine O_s (S_call (H1 := []) hs rfl Tryz.func55 rfl (by kernel_rfl) (leaf_ok (k := k) (a := a) (by omega) (by omega)) fun v41 G' H' _ hR hG104 hs => ?_)
   obtain ⟨rfl, rfl⟩ := hR
   replace hs : St _ _ [] _ := hs
   replace hst := hst.mono hG104
   obtain ⟨nk, hnk⟩ : ∃ n, n = leafF k a := ⟨_, rfl⟩
   have hcn : ClsOk nk.c := by rw [hnk]; exact (leaf_tree (k := k) (a := a) (by omega)).cls _ (by simp)
   rw [← hnk]
   obtain ⟨kd, cc, ll, rr, mn, mx⟩ := nk
   obtain ⟨c0, c1, c2, c3, rfl⟩ := four_of hcn.1
   refine O_s (S_lit hs Tryz.underlying24 Tryz.sizeOf42 Tryz.zeroValue42 rfl rfl (by decide) (by decide) rfl (cs := [_, _, _, _, _, _, _, _, _]) rfl rfl fun v42 _ hs _ => ?_)
   obtain ⟨_, hG105, hl105, hs⟩ := hs.fixRow noM
   replace hst := hst.mono hG105
   refine O_s (S_call (H1 := []) hs rfl Tryz.func54 rfl (by kernel_rfl) (rstk_ok (l := [⟨kd, [c0, c1, c2, c3], ll, rr, mn, mx⟩]) (n := st.length) hst (rx_row (n := 0) hl105 rfl rfl (fun m hm => by rw [List.mem_singleton] at hm; rw [hm]; exact hcn)) (Nat.le_refl _) (by omega)) fun v43 G' H' _ hR hG106 hs => ?_)
   obtain ⟨rfl, hV⟩ := hR
   replace hs : St _ _ [] _ := hs
   replace hst := hst.mono hG106
   replace hl105 := hl105.mono hG106
   refine O_a rfl ?_
   refine O_nil (T_kp [4] rfl ?_)
   refine T_ret ?_
   refine Rt_fin (vs := [_]) Tryz.results37 rfl ⟨rfl, trivial⟩ ?_
   try dsimp only [tup]
   exact ⟨_, [], hs.done, rfl, _, hV, push_leaf hf (hnk ▸ leaf_tree (k := k) (by omega)) rfl, fun h5 h6 => absurd h5 (fun h5 => by subst h5; simp at hkb; omega)⟩

set_option maxHeartbeats 400000 in
set_option maxRecDepth 10000 in
theorem small_ok {G : Ghost} {v : Value} {b : List UInt8} {n : Nat} (hb : Bytes G v b) :
  FnOk Tryz.prog 19 [v, .int .i64 (n : Int)] G [] fun r G' H' => H' = [] ∧ Bytes G' r (b.take n) := by
 obtain ⟨A, cap, rfl, _⟩ := id hb
 refine FnOk.of_T [(0, _), (1, _)] Tryz.func19 rfl Tryz.ntmps19 (by simp) rfl fun w0 hs => ?_
 have hb0 := hb
 refine T_seq (T_region rfl ?_)
 refine O_a rfl ?_
 refine O_nil (T_kp [0, 1] rfl ?_)
 refine T_seq (T_region rfl ?_)
 refine O_m rfl ?_
 refine O_m rfl ?_
 refine O_y hs (Y_len Tryz.underlying30 rfl ?_)
 refine O_m rfl ?_
 refine O_y hs (Y_min (c := ((min b.length n : Nat) : Int)) rfl rfl (by omega) ?_)
 refine O_y hs (Y_sliceB hb 0 (min b.length n) Tryz.underlying30 Tryz.sizeOf5 rfl rfl ⟨_, _, rfl, rfl⟩ (by omega) (by omega) fun s10 hs10 => ?_)
 obtain ⟨A10, c10, rfl, _⟩ := id hs10
 refine O_a rfl ?_
 refine O_nil (T_kp [4] rfl ?_)
 refine T_ret ?_
 refine Rt_fin (vs := [_]) Tryz.results19 rfl ⟨rfl, trivial⟩ ?_
 try dsimp only [tup]
 exact ⟨_, [], hs.done, rfl, by rw [show b.take n = (b.drop 0).take (min b.length n - 0) by rw [List.drop_zero, List.take_eq_take_iff]; omega]; exact hs10⟩

theorem Sl.empty (G : Ghost) (b : Nat) (k : Nat) : Sl G (.slice (some ⟨b, 0, none⟩) 0 0) k 0 [] := ⟨_, _, rfl, by simp, Nat.le_refl _, Nat.zero_le _, fun h => absurd h (by decide)⟩
theorem stk_nil (G : Ghost) (b : Nat) : Stk G (.slice (some ⟨b, 0, none⟩) 0 0) [] := Stk.of (us := []) (Sl.empty G b 1) rfl trivial
def MadeC (most : Nat) (G : Ghost) (v : Value) (l : List UInt8) : Prop := FnOk Tryz.prog 16 [v, .int .i64 (most : Int)] G [] fun r G' H' => H' = [] ∧ ∃ x, Rx G' r x ∧ IsTree x ∧ x.length ≤ most


set_option maxHeartbeats 2000000 in
set_option maxRecDepth 10000 in
theorem made_step {G : Ghost} {v : Value} {l : List UInt8} {most : Nat} (hb : Bytes G v l) (hl : l.length ≤ 1048576) (hm1 : 1 ≤ most) (ih : ∀ G v l', l'.length < l.length → Bytes G v l' → MadeC most G v l') : MadeC most G v l := by
 obtain ⟨A, cap, rfl, _⟩ := id hb
 show FnOk Tryz.prog 16 [.slice A l.length cap, .int .i64 (most : Int)] G [] _
 refine FnOk.of_T [(0, _), (1, _)] Tryz.func16 rfl Tryz.ntmps16 (by simp) rfl fun w0 hs => ?_
 have hb0 := hb
 refine T_seq (T_region rfl ?_)
 refine O_a rfl ?_
 refine O_nil (T_kp [0, 1] rfl ?_)
 refine T_seq (T_region rfl ?_)
 refine O_s (S_lit hs Tryz.underlying63 Tryz.sizeOf24 Tryz.zeroValue24 rfl rfl (by decide) (by decide) rfl (cs := []) rfl rfl fun v1 _ hs shv1 => ?_)
 refine O_a rfl ?_
 refine O_nil (T_kp [0, 1, 5] rfl ?_)
 obtain ⟨bz, rfl⟩ := shv1
 refine T_seq (T_seq (T_region rfl ?_))
 refine O_a rfl ?_
 refine O_nil (T_kp [0, 1, 5, 6] rfl ?_)
 refine T_block (T_loop (fun m E w => ∃ (k : Nat) (st : List (List NodeV)) (As : Option Addr) (cs : Nat) (G' : Ghost), k ≤ l.length ∧ Stk G' (.slice As st.length cs) st ∧ Forest st ∧ total st = k ∧ (k = 0 → Value.slice As st.length cs = .slice (some ⟨bz, 0, none⟩) 0 0) ∧ (0 < k → 1 ≤ st.length) ∧ m = l.length - k ∧ E = ⟨[], [(0, (.slice A l.length cap)), (1, .int .i64 (most : Int)), (5, .slice As st.length cs), (6, .int .i64 (k : Int))]⟩ ∧ St ⟨w0, G, feet []⟩ G' [.row 24 1 (.slice (some ⟨bz, 0, none⟩) 0 0) 0 []] w) (L := [(0, _), (1, _), (5, _), (6, _)]) ⟨rfl, rfl, rfl, rfl, trivial⟩ (⟨0, [], _, _, _, by omega, stk_nil _ bz, (fun _ h => by cases h), rfl, fun _ => rfl, fun h => absurd h (by decide), rfl, rfl, hs⟩) fun m E w hI => ?_)
 obtain ⟨k, st, As, cs, G', hk, hst, hf, htot, hk0, hk1, rfl, rfl, hs⟩ := hI
 have hb := hb0.mono hs.le
 have hfl := hf.len
 refine T_seq (T_seq (T_region rfl ?_))
 refine O_m rfl ?_
 refine O_m rfl ?_
 refine O_y hs (Y_len Tryz.underlying30 rfl ?_)
 refine O_y hs (Y_cmpS rfl rfl rfl (fun h12 => ?_) (fun h12 => ?_))
 ·
  dsimp only [cmpP] at h12
  refine O_nil (T_kp [0, 1, 5, 6, 12] rfl ?_)
  refine T_condT rfl (T_skip ?_)
  refine T_seq (T_block (T_region rfl ?_))
  refine O_m rfl ?_
  refine O_m rfl ?_
  refine O_m rfl ?_
  refine O_y hs (Y_idxB hb k Tryz.underlying30 Tryz.sizeOf5 rfl rfl rfl (by omega) fun p18 hp18 => ?_)
  refine O_y hs (Y_ldG Tryz.isAgg5 rfl (hp18) ?_)
  refine O_s (S_call (H1 := []) hs rfl Tryz.func37 rfl (by kernel_rfl) (push_ok (b := l[k]) hst hf (by omega)) fun v2 G' H' _ hR hG20 hs => ?_)
  obtain ⟨rfl, st2, hst2, hp2, _⟩ := hR
  replace hs : St _ _ [_] _ := hs
  replace hb := hb.mono hG20
  replace hst := hst.mono hG20
  obtain ⟨As2, cs2, rfl⟩ := LstR.slice hst2
  refine O_a rfl ?_
  refine O_nil (T_kp [0, 1, 5, 6] rfl ?_)
  refine T_region rfl ?_
  refine O_m rfl ?_
  refine O_y hs (Y_add (c := ((k + 1 : Nat) : Int)) rfl rfl (by omega) (by omega) ?_)
  refine O_a rfl ?_
  refine O_nil ⟨_, ?_, [(0, _), (1, _), (5, _), (6, _)], ⟨rfl, rfl, rfl, rfl, trivial⟩, ⟨k + 1, st2, _, _, _, by omega, hst2, hp2.forest, by rw [hp2.sum, htot], fun h => absurd h (by omega), fun _ => hp2.one, rfl, rfl, hs⟩⟩
  omega
 ·
  dsimp only [cmpP] at h12
  refine O_nil (T_kp [0, 1, 5, 6, 12] rfl ?_)
  refine T_condF rfl (T_exit ?_)
  obtain rfl : k = l.length := by omega
  refine T_seq (T_seq (T_region rfl ?_))
  refine O_m rfl ?_
  refine O_y hs (Y_len Tryz.underlying63 rfl ?_)
  refine O_y hs (Y_cmpS rfl rfl rfl (fun h23 => ?_) (fun h23 => ?_))
  ·
   dsimp only [cmpP] at h23
   refine O_nil (T_kp [0, 1, 5, 23] rfl ?_)
   have hz := hk0 (by omega)
   rw [hz]
   refine T_condT rfl (T_region rfl ?_)
   refine O_m rfl ?_
   refine O_y hs (Y_build Tryz.zeroValue42 rfl PL42 rfl (cs := [_, _, _, _, _, _, _, _, _]) rfl ?_)
   refine O_s (S_lit hs Tryz.underlying24 Tryz.sizeOf42 Tryz.zeroValue42 rfl rfl (by decide) (by decide) rfl (cs := [_, _, _, _, _, _, _, _, _]) rfl rfl fun v3 _ hs shv3 => ?_)
   obtain ⟨bv3, rfl⟩ := shv3
   obtain ⟨_, hG26, hl26, hs⟩ := hs.fixRow noM
   replace hb := hb.mono hG26
   replace hst := hst.mono hG26
   refine O_s (S_lit hs Tryz.underlying63 Tryz.sizeOf24 Tryz.zeroValue24 rfl rfl (by decide) (by decide) rfl (cs := [_]) rfl rfl fun v4 _ hs shv4 => ?_)
   obtain ⟨bv4, rfl⟩ := shv4
   obtain ⟨_, hG27, hl27, hs⟩ := hs.fixRow noM
   replace hb := hb.mono hG27
   replace hst := hst.mono hG27
   replace hl26 := hl26.mono hG27
   refine O_s (S_append hs Tryz.underlying63 TI24 rfl (by decide) rfl rfl (hl27) (one1 rfl) (by omega) (by omega) fun v5 _ hs => ?_)
   refine O_a rfl ?_
   refine O_nil (T_kp [0, 1, 5] rfl ?_)
   obtain ⟨_, hGz, hz2, hsN⟩ := hs.fixRow noM
   clear hs
   have hstk : Stk _ _ [[leafN 2 noC]] := Stk.of hz2 rfl ⟨(rx_row (n := 0) hl26 rfl rfl (fun m hm => by rw [List.mem_singleton] at hm; rw [hm]; exact noC_ok)).mono hGz, trivial⟩
   obtain ⟨Az, cz, rfl⟩ := LstR.slice hstk
   have hs := hsN
   replace hb := hb.mono hGz
   refine T_seq (T_block (T_loop (fun m E w => ∃ (st : List (List NodeV)) (As : Option Addr) (cs : Nat) (G' : Ghost), Stk G' (.slice As st.length cs) st ∧ Forest st ∧ 1 ≤ st.length ∧ total st + st.length ≤ 2 * l.length + 2 ∧ m = st.length ∧ E = ⟨[], [(0, (.slice A l.length cap)), (1, .int .i64 (most : Int)), (5, .slice As st.length cs)]⟩ ∧ St ⟨w0, G, feet []⟩ G' [] w) (L := [(0, _), (1, _), (5, _)]) ⟨rfl, rfl, rfl, trivial⟩ (⟨[[leafN 2 noC]], _, _, _, hstk, .one (.leaf (.inr (.inl ⟨rfl, rfl⟩))), by decide, by show 1 + 1 ≤ _; omega, rfl, rfl, hs⟩) fun m E w hI => ?_))
   obtain ⟨st, As, cs, G', hst, hf, h1st, htot2, rfl, rfl, hs⟩ := hI
   have hb := hb0.mono hs.le
   have hfl := hf.len
   refine T_seq (T_seq (T_region rfl ?_))
   refine O_m rfl ?_
   refine O_y hs (Y_len Tryz.underlying63 rfl ?_)
   refine O_y hs (Y_cmpS rfl rfl rfl (fun h31 => ?_) (fun h31 => ?_))
   ·
    dsimp only [cmpP] at h31
    refine O_nil (T_kp [0, 1, 5, 31] rfl ?_)
    refine T_condT rfl (T_skip ?_)
    refine T_block (T_region rfl ?_)
    refine O_m rfl ?_
    refine O_s (S_call (H1 := []) hs rfl Tryz.func37 rfl (by kernel_rfl) (push_ok (b := 5) hst hf (by omega)) fun v6 G' H' _ hR hG33 hs => ?_)
    obtain ⟨rfl, st2, hst2, hp2, h52⟩ := hR
    replace hs : St _ _ [] _ := hs
    replace hb := hb.mono hG33
    replace hst := hst.mono hG33
    obtain ⟨As2, cs2, rfl⟩ := LstR.slice hst2
    refine O_a rfl ?_
    have h6 := h52 rfl (by omega)
    refine O_nil ⟨_, ?_, [(0, _), (1, _), (5, _)], ⟨rfl, rfl, rfl, trivial⟩, ⟨st2, _, _, _, hst2, hp2.forest, hp2.one, by rw [hp2.sum]; omega, rfl, rfl, hs⟩⟩
    omega
   ·
    dsimp only [cmpP] at h31
    refine O_nil (T_kp [0, 1, 5, 31] rfl ?_)
    refine T_condF rfl (T_exit ?_)
    have hx0 := total_le (st := st) (i := 0) (by omega)
    refine T_seq (T_region rfl ?_)
    refine O_m rfl ?_
    refine O_y hs (Y_idxS hst 0 Tryz.underlying63 Tryz.sizeOf24 rfl rfl rfl (by omega) fun p35 c35 hp35 hc35 hR35 => ?_)
    obtain ⟨u35, rfl, hx35⟩ := hR35
    obtain ⟨A35, q35, rfl⟩ := LstR.slice hx35
    refine O_y hs (Y_ldG Tryz.isAgg24 rfl (gcell_0 (hp35 0 _ rfl)) ?_)
    refine O_a rfl ?_
    refine O_nil (T_kp [0, 1, 7] rfl ?_)
    refine T_seq (T_seq (T_region rfl ?_))
    refine O_m rfl ?_
    refine O_y hs (Y_len Tryz.underlying24 rfl ?_)
    refine O_m rfl ?_
    refine O_y hs (Y_cmpS rfl rfl rfl (fun h40 => ?_) (fun h40 => ?_))
    ·
     dsimp only [cmpP] at h40
     refine O_nil (T_kp [0, 1, 7, 40] rfl ?_)
     refine T_condT rfl (T_seq (T_region rfl ?_))
     refine O_m rfl ?_
     refine O_m rfl ?_
     refine O_y hs (Y_len Tryz.underlying30 rfl ?_)
     refine O_y hs (Y_quo (c := ((l.length / 2 : Nat) : Int)) rfl rfl (by omega) (by omega) (by omega) ?_)
     refine O_y hs (Y_sliceB hb 0 (l.length / 2) Tryz.underlying30 Tryz.sizeOf5 rfl rfl ⟨_, _, rfl, rfl⟩ (by omega) (by omega) fun s45 hs45 => ?_)
     obtain ⟨A45, c45, rfl, _⟩ := id hs45
     refine O_m rfl ?_
     refine O_s (S_call (H1 := []) hs rfl Tryz.func16 rfl (by kernel_rfl) (ih _ _ _ (by rw [List.length_take, List.length_drop]; omega) hs45) fun v7 G' H' _ hR hG47 hs => ?_)
     obtain ⟨rfl, x2, hx2, ht2, hl2⟩ := hR
     replace hs : St _ _ [] _ := hs
     replace hb := hb.mono hG47
     replace hst := hst.mono hG47
     replace hx35 := hx35.mono hG47
     replace hs45 := hs45.mono hG47
     refine O_a rfl ?_
     refine O_nil (T_kp [4] rfl ?_)
     refine T_ret ?_
     refine Rt_fin (vs := [_]) Tryz.results16 rfl ⟨rfl, trivial⟩ ?_
     try dsimp only [tup]
     exact ⟨_, [], hs.done, rfl, x2, hx2, ht2, hl2⟩
    ·
     dsimp only [cmpP] at h40
     refine O_nil (T_kp [0, 1, 7, 40] rfl ?_)
     refine T_condF rfl (T_skip ?_)
     refine T_seq (T_region rfl ?_)
     refine O_m rfl ?_
     refine O_a rfl ?_
     refine O_nil (T_kp [4] rfl ?_)
     refine T_ret ?_
     refine Rt_fin (vs := [_]) Tryz.results16 rfl ⟨rfl, trivial⟩ ?_
     try dsimp only [tup]
     exact ⟨_, [], hs.done, rfl, _, hx35, hf.at (by omega), by omega⟩
  ·
   dsimp only [cmpP] at h23
   refine O_nil (T_kp [0, 1, 5, 23] rfl ?_)
   refine T_condF rfl (T_skip ?_)
   replace hs := hs.drop
   refine T_seq (T_block (T_loop (fun m E w => ∃ (st : List (List NodeV)) (As : Option Addr) (cs : Nat) (G' : Ghost), Stk G' (.slice As st.length cs) st ∧ Forest st ∧ 1 ≤ st.length ∧ total st + st.length ≤ 2 * l.length + 2 ∧ m = st.length ∧ E = ⟨[], [(0, (.slice A l.length cap)), (1, .int .i64 (most : Int)), (5, .slice As st.length cs)]⟩ ∧ St ⟨w0, G, feet []⟩ G' [] w) (L := [(0, _), (1, _), (5, _)]) ⟨rfl, rfl, rfl, trivial⟩ (⟨st, As, cs, _, hst, hf, by omega, by have := hf.len; omega, rfl, rfl, hs⟩) fun m E w hI => ?_))
   obtain ⟨st, As, cs, G', hst, hf, h1st, htot2, rfl, rfl, hs⟩ := hI
   have hb := hb0.mono hs.le
   have hfl := hf.len
   refine T_seq (T_seq (T_region rfl ?_))
   refine O_m rfl ?_
   refine O_y hs (Y_len Tryz.underlying63 rfl ?_)
   refine O_y hs (Y_cmpS rfl rfl rfl (fun h31 => ?_) (fun h31 => ?_))
   ·
    dsimp only [cmpP] at h31
    refine O_nil (T_kp [0, 1, 5, 31] rfl ?_)
    refine T_condT rfl (T_skip ?_)
    refine T_block (T_region rfl ?_)
    refine O_m rfl ?_
    refine O_s (S_call (H1 := []) hs rfl Tryz.func37 rfl (by kernel_rfl) (push_ok (b := 5) hst hf (by omega)) fun v8 G' H' _ hR hG33 hs => ?_)
    obtain ⟨rfl, st2, hst2, hp2, h52⟩ := hR
    replace hs : St _ _ [] _ := hs
    replace hb := hb.mono hG33
    replace hst := hst.mono hG33
    obtain ⟨As2, cs2, rfl⟩ := LstR.slice hst2
    refine O_a rfl ?_
    have h6 := h52 rfl (by omega)
    refine O_nil ⟨_, ?_, [(0, _), (1, _), (5, _)], ⟨rfl, rfl, rfl, trivial⟩, ⟨st2, _, _, _, hst2, hp2.forest, hp2.one, by rw [hp2.sum]; omega, rfl, rfl, hs⟩⟩
    omega
   ·
    dsimp only [cmpP] at h31
    refine O_nil (T_kp [0, 1, 5, 31] rfl ?_)
    refine T_condF rfl (T_exit ?_)
    have hx0 := total_le (st := st) (i := 0) (by omega)
    refine T_seq (T_region rfl ?_)
    refine O_m rfl ?_
    refine O_y hs (Y_idxS hst 0 Tryz.underlying63 Tryz.sizeOf24 rfl rfl rfl (by omega) fun p35 c35 hp35 hc35 hR35 => ?_)
    obtain ⟨u35, rfl, hx35⟩ := hR35
    obtain ⟨A35, q35, rfl⟩ := LstR.slice hx35
    refine O_y hs (Y_ldG Tryz.isAgg24 rfl (gcell_0 (hp35 0 _ rfl)) ?_)
    refine O_a rfl ?_
    refine O_nil (T_kp [0, 1, 7] rfl ?_)
    refine T_seq (T_seq (T_region rfl ?_))
    refine O_m rfl ?_
    refine O_y hs (Y_len Tryz.underlying24 rfl ?_)
    refine O_m rfl ?_
    refine O_y hs (Y_cmpS rfl rfl rfl (fun h40 => ?_) (fun h40 => ?_))
    ·
     dsimp only [cmpP] at h40
     refine O_nil (T_kp [0, 1, 7, 40] rfl ?_)
     refine T_condT rfl (T_seq (T_region rfl ?_))
     refine O_m rfl ?_
     refine O_m rfl ?_
     refine O_y hs (Y_len Tryz.underlying30 rfl ?_)
     refine O_y hs (Y_quo (c := ((l.length / 2 : Nat) : Int)) rfl rfl (by omega) (by omega) (by omega) ?_)
     refine O_y hs (Y_sliceB hb 0 (l.length / 2) Tryz.underlying30 Tryz.sizeOf5 rfl rfl ⟨_, _, rfl, rfl⟩ (by omega) (by omega) fun s45 hs45 => ?_)
     obtain ⟨A45, c45, rfl, _⟩ := id hs45
     refine O_m rfl ?_
     refine O_s (S_call (H1 := []) hs rfl Tryz.func16 rfl (by kernel_rfl) (ih _ _ _ (by rw [List.length_take, List.length_drop]; omega) hs45) fun v9 G' H' _ hR hG47 hs => ?_)
     obtain ⟨rfl, x2, hx2, ht2, hl2⟩ := hR
     replace hs : St _ _ [] _ := hs
     replace hb := hb.mono hG47
     replace hst := hst.mono hG47
     replace hx35 := hx35.mono hG47
     replace hs45 := hs45.mono hG47
     refine O_a rfl ?_
     refine O_nil (T_kp [4] rfl ?_)
     refine T_ret ?_
     refine Rt_fin (vs := [_]) Tryz.results16 rfl ⟨rfl, trivial⟩ ?_
     try dsimp only [tup]
     exact ⟨_, [], hs.done, rfl, x2, hx2, ht2, hl2⟩
    ·
     dsimp only [cmpP] at h40
     refine O_nil (T_kp [0, 1, 7, 40] rfl ?_)
     refine T_condF rfl (T_skip ?_)
     refine T_seq (T_region rfl ?_)
     refine O_m rfl ?_
     refine O_a rfl ?_
     refine O_nil (T_kp [4] rfl ?_)
     refine T_ret ?_
     refine Rt_fin (vs := [_]) Tryz.results16 rfl ⟨rfl, trivial⟩ ?_
     try dsimp only [tup]
     exact ⟨_, [], hs.done, rfl, _, hx35, hf.at (by omega), by omega⟩

theorem made_ok {most : Nat} (hm1 : 1 ≤ most) : ∀ (n : Nat) (G : Ghost) (v : Value) (l : List UInt8), l.length ≤ n → n ≤ 1048576 → Bytes G v l → MadeC most G v l
  | 0, G, v, l, h, _, hb => made_step hb (by omega) hm1 (fun G v l' h' => absurd h' (by omega))
  | n + 1, G, v, l, h, hn, hb => made_step hb (by omega) hm1 (fun G v l' h' hb' => made_ok hm1 n G v l' (by omega) (by omega) hb')


end Go.Proofs.YtkmgbcjfidpmgaaGreatDoor
