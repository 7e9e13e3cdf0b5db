import Derived.Test.YtkmgbcjfidpmgaaGreatDoorExWalks4
import Derived.Test.YtkmgbcjfidpmgaaGreatDoorProg
import Derived.Test.YtkmgbcjfidpmgaaGreatDoorSame
import Derived.Test.YtkmgbcjfidpmgaaGreatDoorExThin
import Derived.Test.YtkmgbcjfidpmgaaGreatDoorShelf
namespace Go.Proofs.YtkmgbcjfidpmgaaGreatDoor
open Go Go.Ex Go.RowKit
theorem TI9 : TI Tryz.prog 9 (.string ByteArray.empty) 1 16 := TI.of (by kernel_rfl)

set_option maxHeartbeats 400000 in
set_option maxRecDepth 10000 in
theorem wrp_ok {G : Ghost} {v kv : Value} {l : List NodeV} {T : List (List UInt8)} {ks : List Int} {i b1 b5 b17 : Nat} (hx : Rx G v l) (hK : Ints G kv ks) (hi : i < T.length) (hTl : T.length ≤ l.length) (hll : l.length ≤ 1000000) (hks : ks.length ≤ 1000) (hln : (T.getD i []).length ≤ 1000000) :
  FnOk Tryz.prog 38 [.int .i64 (i : Int), kv, .pointer (some ⟨b1, 0, none⟩), .pointer (some ⟨b5, 0, none⟩)] G [.blk b1 24 [v], .blk b5 65 [.slice (some ⟨b17, 0, none⟩) l.length l.length], .row 9 1 (.slice (some ⟨b17, 0, none⟩) l.length l.length) l.length ((padT l.length T).map strV)] fun r _ H' => H' = [.blk b1 24 [v], .blk b5 65 [.slice (some ⟨b17, 0, none⟩) l.length l.length], .row 9 1 (.slice (some ⟨b17, 0, none⟩) l.length l.length) l.length ((padT l.length T).map strV)] ∧ r = strV (wrapF l T ks i) := by
 obtain ⟨A, cap, rfl⟩ := LstR.slice hx
 obtain ⟨Ak, ck, rfl, _⟩ := id hK
 have hki := kindAt_get (l := l) (i := i) (by omega)
 refine FnOk.of_T [(0, _), (1, _), (2, _), (3, _)] Tryz.func38 rfl Tryz.ntmps38 (by simp) rfl fun w0 hs => ?_
 have hx0 := hx
 have hK0 := hK
 refine T_seq (T_region rfl ?_)
 refine O_a rfl ?_
 refine O_nil (T_kp [0, 1, 2, 3] rfl ?_)
 refine T_seq (T_seq (T_region rfl ?_))
 refine O_m rfl ?_
 refine O_y hs (Y_len Tryz.underlying66 rfl ?_)
 refine O_m rfl ?_
 refine O_nil (T_kp [0, 2, 3, 9, 10, 11] rfl ?_)
 refine T_block (T_loop (fun m E w => ∃ (j : Nat) (G' : Ghost), j ≤ ks.length ∧ (∀ n (hn : n < ks.length), n < j → ¬ kindAt l i = ks[n]) ∧ m = ks.length - j ∧ E = ⟨[], [(0, .int .i64 (i : Int)), (2, .pointer (some ⟨b1, 0, none⟩)), (3, .pointer (some ⟨b5, 0, none⟩)), (9, .slice Ak ks.length ck), (10, .int .i64 ((ks.length : Nat) : Int)), (11, .int .i64 (j : Int))]⟩ ∧ St ⟨w0, G, feet [.blk b1 24 [(.slice A l.length cap)], .blk b5 65 [.slice (some ⟨b17, 0, none⟩) l.length l.length], .row 9 1 (.slice (some ⟨b17, 0, none⟩) l.length l.length) l.length ((padT l.length T).map strV)]⟩ G' [.blk b1 24 [(.slice A l.length cap)], .blk b5 65 [.slice (some ⟨b17, 0, none⟩) l.length l.length], .row 9 1 (.slice (some ⟨b17, 0, none⟩) l.length l.length) l.length ((padT l.length T).map strV)] w) (L := [(0, _), (2, _), (3, _), (9, _), (10, _), (11, _)]) ⟨rfl, rfl, rfl, rfl, rfl, rfl, trivial⟩ (⟨0, _, by omega, fun n hn h => absurd h (by omega), rfl, rfl, hs⟩) fun m E w hI => ?_)
 obtain ⟨j, G', hj, hno, rfl, rfl, hs⟩ := hI
 have hx := hx0.mono hs.le
 have hK := hK0.mono hs.le
 refine T_seq (T_region rfl ?_)
 refine O_y hs (Y_cmpS rfl rfl rfl (fun h12 => ?_) (fun h12 => ?_))
 ·
  dsimp only [cmpP] at h12
  refine O_nil (T_kp [0, 2, 3, 9, 10, 11, 12] rfl ?_)
  refine T_seq (T_condT rfl (T_skip ?_))
  refine T_seq (T_block (T_seq (T_region rfl ?_)))
  refine O_y hs (Y_idxI hK j Tryz.underlying66 Tryz.sizeOf3 rfl rfl rfl (by omega) fun p13 hp13 => ?_)
  refine O_y hs (Y_ldG Tryz.isAgg3 rfl (hp13) ?_)
  refine O_a rfl ?_
  refine O_nil (T_kp [0, 2, 3, 8, 9, 10, 11] rfl ?_)
  refine T_seq (T_region rfl ?_)
  refine O_y hs (Y_ld 0 Tryz.isAgg24 rfl rfl rfl ?_)
  refine O_m rfl ?_
  refine O_y hs (Y_idxS hx i Tryz.underlying24 Tryz.sizeOf42 rfl rfl rfl (by omega) fun p17 c17 hp17 hc17 hR17 => ?_)
  refine O_y hs (Y_fieldAddrP FO42_0 rfl ?_)
  refine O_y hs (Y_ldG Tryz.isAgg3 rfl (hp17 0 (.int .i64 (kindAt l i)) (by rw [hR17.1, hki]; rfl)) ?_)
  refine O_m rfl ?_
  refine O_y hs (Y_cmpS rfl rfl rfl (fun h21 => ?_) (fun h21 => ?_))
  ·
   dsimp only [cmpP] at h21
   refine O_nil (T_kp [0, 2, 3, 9, 10, 11, 21] rfl ?_)
   refine T_condT rfl (T_seq (T_region rfl ?_))
   refine O_y hs (Y_ld 1 Tryz.isAgg65 rfl rfl rfl ?_)
   refine O_m rfl ?_
   refine O_y hs (Y_idxRow (i) Tryz.underlying65 Tryz.sizeOf9 rfl rfl rfl (by omega) ?_)
   refine O_y hs (Y_ldRow 2 rfl Tryz.isAgg9 rfl (by rw [List.getElem?_map, padT_at hi]; rfl) ?_)
   refine O_y hs (Y_cat rfl rfl (by simp only [List.length_cons, List.length_nil]; omega) ?_)
   refine O_y hs (Y_cat rfl rfl (by simp only [List.length_append, List.length_cons, List.length_nil]; omega) ?_)
   refine O_a rfl ?_
   refine O_nil (T_kp [6] rfl ?_)
   refine T_ret ?_
   have hs := hs.f2
   have hs := hs.f2
   have hs := hs.f2
   refine Rt_fin (vs := [_]) Tryz.results38 rfl ⟨rfl, trivial⟩ ?_
   try dsimp only [tup]
   exact ⟨_, _, hs, rfl, by unfold wrapF; rw [if_pos (ks_yes (by omega) h21)]; try simp [strV]⟩
  ·
   dsimp only [cmpP] at h21
   refine O_nil (T_kp [0, 2, 3, 9, 10, 11, 21] rfl ?_)
   refine T_condF rfl (T_skip ?_)
   refine T_region rfl ?_
   refine O_y hs (Y_add (c := ((j + 1 : Nat) : Int)) rfl rfl (by omega) (by omega) ?_)
   refine O_m rfl ?_
   refine O_nil ⟨_, ?_, [(0, _), (2, _), (3, _), (9, _), (10, _), (11, _)], ⟨rfl, rfl, rfl, rfl, rfl, rfl, trivial⟩, ⟨j + 1, _, by omega, fun n hn h => (Nat.lt_or_ge n j).elim (hno n hn) (fun h' => by have e : n = j := (by omega); subst e; exact h21), rfl, rfl, hs⟩⟩
   omega
 ·
  dsimp only [cmpP] at h12
  refine O_nil (T_kp [0, 2, 3, 9, 10, 11, 12] rfl ?_)
  refine T_seq (T_condF rfl (T_exit ?_))
  refine T_seq (T_region rfl ?_)
  refine O_y hs (Y_ld 1 Tryz.isAgg65 rfl rfl rfl ?_)
  refine O_m rfl ?_
  refine O_y hs (Y_idxRow (i) Tryz.underlying65 Tryz.sizeOf9 rfl rfl rfl (by omega) ?_)
  refine O_y hs (Y_ldRow 2 rfl Tryz.isAgg9 rfl (by rw [List.getElem?_map, padT_at hi]; rfl) ?_)
  refine O_a rfl ?_
  refine O_nil (T_kp [6] rfl ?_)
  refine T_ret ?_
  have hs := hs.f2
  have hs := hs.f2
  have hs := hs.f2
  refine Rt_fin (vs := [_]) Tryz.results38 rfl ⟨rfl, trivial⟩ ?_
  try dsimp only [tup]
  exact ⟨_, _, hs, rfl, by unfold wrapF; rw [if_neg (by rw [ks_not (fun n hn => hno n hn (by omega))]; simp)]; try simp [strV]⟩

set_option maxHeartbeats 4000000 in
set_option maxRecDepth 10000 in
theorem fmt_ok {G : Ghost} {v : Value} {l : List NodeV} (hx : Rx G v l) (hl : l.length ≤ 1000000000) (hT : Tab G) :
  FnOk Tryz.prog 17 [v] G [] fun r _ H' => H' = [] ∧ r = .tuple #[strV (formatF l).1, .int .i64 (formatF l).2] := by
 obtain ⟨A, cap, rfl⟩ := LstR.slice hx
 have hcls := rx_cls hx
 refine FnOk.of_T [(0, _)] Tryz.func17 rfl Tryz.ntmps17 (by simp) rfl fun w0 hs => ?_
 have hx0 := hx
 have hT0 := hT
 refine T_seq (T_region rfl ?_)
 refine O_s (S_box hs rfl (cs := [_]) rfl fun b1 _ hs => ?_)
 refine O_a rfl ?_
 refine O_a rfl ?_
 refine O_nil (T_kp [1] rfl ?_)
 refine T_seq (T_seq (T_region rfl ?_))
 refine O_y hs (Y_ld 0 Tryz.isAgg24 rfl rfl rfl ?_)
 refine O_s (S_call (H1 := []) hs rfl Tryz.func24 rfl (by kernel_rfl) (valid_ok hx hl) fun v1 G' H' _ hR hG11 hs => ?_)
 obtain ⟨rfl, rfl⟩ := hR
 replace hs : St _ _ [_] _ := hs
 replace hx := hx.mono hG11
 replace hT := hT.mono hG11
 refine O_a rfl ?_
 refine O_nil (T_kp [1, 4] rfl ?_)
 refine T_seq (T_region rfl ?_)
 refine O_m rfl ?_
 refine O_y hs (Y_cmpS rfl rfl rfl (fun h13 => ?_) (fun h13 => ?_))
 ·
  dsimp only [cmpP] at h13
  refine O_nil (T_kp [1, 4, 13] rfl ?_)
  refine T_condT rfl (T_seq (T_region rfl ?_))
  refine O_m rfl ?_
  refine O_a rfl ?_
  refine O_a rfl ?_
  refine O_nil (T_kp [2, 3] rfl ?_)
  refine T_ret ?_
  refine Rt_fin (vs := [_, _]) Tryz.results17 rfl ⟨rfl, rfl, trivial⟩ ?_
  try dsimp only [tup]
  exact ⟨_, [], hs.done, rfl, by unfold formatF; rw [if_neg (by omega)]; try rfl⟩
 ·
  dsimp only [cmpP] at h13
  refine O_nil (T_kp [1, 4, 13] rfl ?_)
  refine T_condF rfl (T_skip ?_)
  have hv0 : validF l = 0 := by omega
  have hv1 := ones_of hv0
  refine T_seq (T_region rfl ?_)
  refine O_y hs (Y_ld 0 Tryz.isAgg24 rfl rfl rfl ?_)
  refine O_y hs (Y_len Tryz.underlying24 rfl ?_)
  refine O_s (S_make (n := l.length) (m := l.length) hs Tryz.underlying65 TI9 rfl rfl rfl (by omega) (by omega) (by omega) fun b17 _ hs => ?_)
  refine O_s (S_alloc hs Tryz.zeroValue65 (cs := [_]) rfl fun b5 _ hs => ?_)
  refine O_n (S_st hs Tryz.sizeOf65 rfl rfl (hs.rowOne 1 rfl) (by simp) (cs' := [_]) rfl fun _ hs => ?_)
  refine O_nil (T_kp [1, 5] rfl ?_)
  refine T_seq (T_region rfl ?_)
  refine O_y hs (Y_makeFunc (vs := [_, _]) rfl ?_)
  refine O_a rfl ?_
  refine O_nil (T_kp [1, 5, 6] rfl ?_)
  refine T_seq (T_seq (T_region rfl ?_))
  refine O_y hs (Y_ld 2 Tryz.isAgg24 rfl rfl rfl ?_)
  refine O_y hs (Y_len Tryz.underlying24 rfl ?_)
  refine O_m rfl ?_
  refine O_nil (T_kp [1, 5, 6, 19, 20, 21] rfl ?_)
  have hs := hs.f1
  have hs := hs.f1
  have hs := hs.f2
  refine T_block (T_loop (fun m E w => ∃ (k : Nat) (G' : Ghost), k ≤ l.length ∧ m = l.length - k ∧ E = ⟨[], [(1, .pointer (some ⟨b1, 0, none⟩)), (5, .pointer (some ⟨b5, 0, none⟩)), (6, .func (.func 38) #[] #[.pointer (some ⟨b1, 0, none⟩), .pointer (some ⟨b5, 0, none⟩)]), (19, (.slice A l.length cap)), (20, .int .i64 ((l.length : Nat) : Int)), (21, .int .i64 (k : Int))]⟩ ∧ St ⟨w0, G, feet []⟩ G' [.blk b1 24 [(.slice A l.length cap)], .blk b5 65 [.slice (some ⟨b17, 0, none⟩) l.length l.length], .row 9 1 (.slice (some ⟨b17, 0, none⟩) l.length l.length) l.length ((padT l.length (textsF l k)).map strV)] w) (L := [(1, _), (5, _), (6, _), (19, _), (20, _), (21, _)]) ⟨rfl, rfl, rfl, rfl, rfl, rfl, trivial⟩ (⟨0, _, by omega, rfl, rfl, by rw [show textsF l 0 = [] from rfl]; unfold padT; rw [List.nil_append, List.map_replicate]; exact hs⟩) fun m E w hI => ?_)
  obtain ⟨k, G', hk, rfl, rfl, hs⟩ := hI
  have hx := hx0.mono hs.le
  have hT := hT0.mono hs.le
  have htl := textsF_len l k (by omega)
  refine T_seq (T_region rfl ?_)
  refine O_y hs (Y_cmpS rfl rfl rfl (fun h22 => ?_) (fun h22 => ?_))
  ·
   dsimp only [cmpP] at h22
   refine O_nil (T_kp [1, 5, 6, 19, 20, 21, 22] rfl ?_)
   refine T_seq (T_condT rfl (T_skip ?_))
   refine T_seq (T_block (T_seq (T_region rfl ?_)))
   refine O_m rfl ?_
   refine O_y hs (Y_idxS hx k Tryz.underlying24 Tryz.sizeOf42 rfl rfl rfl (by omega) fun p24 c24 hp24 hc24 hR24 => ?_)
   obtain ⟨rfl, hco⟩ := hR24
   obtain ⟨nk, hnk⟩ : ∃ n, n = l[k] := ⟨_, rfl⟩
   have hne := err_at (l := l) 0 hv1.2.2.1 k (by omega) (Nat.zero_le _)
   have hfb := fmt_bound hv0 hcls (show k < l.length by omega)
   rw [← hnk] at hp24 hco hne hfb
   obtain ⟨kd, cc, ll, rr, mn, mx⟩ := nk
   obtain ⟨c0, c1, c2, c3, rfl⟩ := four_of hco.1
   have hop := nodeE_ops hne
   have hkd := nodeE_kind hne
   dsimp only at hkd
   refine O_y hs (Y_ldAG (vs := [.int .i64 kd, u64V c0, u64V c1, u64V c2, u64V c3, .int .i64 ll, .int .i64 rr, .int .i64 mn, .int .i64 mx]) Tryz.isAgg42 Tryz.sizeOf42 rfl hp24 rfl ?_)
   refine O_s (S_alloc hs Tryz.zeroValue42 (cs := [_, _, _, _, _, _, _, _, _]) rfl fun b8 _ hs => ?_)
   refine O_a rfl ?_
   refine O_n (S_stA hs Tryz.sizeOf42 rfl rfl (vs := [_, _, _, _, _, _, _, _, _]) rfl (rfl) (by simp) (cs' := [_, _, _, _, _, _, _, _, _]) rfl fun _ hs => ?_)
   refine O_nil (T_kp [1, 5, 6, 7, 8, 19, 20, 21] rfl ?_)
   refine T_seq (T_region rfl ?_)
   refine O_y hs (Y_fieldAddr FO42_0 rfl (m := 0) rfl ?_)
   refine O_y hs (Y_ld 0 Tryz.isAgg3 rfl rfl rfl ?_)
   refine O_nil (T_kp [1, 5, 6, 7, 8, 19, 20, 21, 27] rfl ?_)
   refine T_block (T_seq (T_region rfl ?_))
   refine O_y hs (Y_cmpS rfl rfl rfl (fun h29 => ?_) (fun h29 => ?_))
   ·
    dsimp only [cmpP] at h29
    refine O_a rfl ?_
    refine O_nil (T_kp [1, 5, 6, 7, 8, 19, 20, 21, 27, 28] rfl ?_)
    refine T_condT rfl (T_region rfl ?_)
    refine O_y hs (Y_ld 2 Tryz.isAgg65 rfl rfl rfl ?_)
    refine O_m rfl ?_
    refine O_y hs (Y_idxRow (k) Tryz.underlying65 Tryz.sizeOf9 rfl rfl rfl (by omega) ?_)
    have hs := hs.f3
    refine O_n (S_stRow hs Tryz.sizeOf9 rfl rfl rfl (by omega) fun _ hs => ?_)
    refine O_nil (T_kp [1, 5, 6, 19, 20, 21] rfl ?_)
    refine T_region rfl ?_
    refine O_y hs (Y_add (c := ((k + 1 : Nat) : Int)) rfl rfl (by omega) (by omega) ?_)
    refine O_m rfl ?_
    have hs := hs.f3
    have hs := hs.f3
    have hnt : nodeT l (textsF l k) ⟨kd, [c0, c1, c2, c3], ll, rr, mn, mx⟩ = [33] := by unfold nodeT; rw [if_pos (by dsimp only; omega)]; try rfl
    have hrow := row_step (l := l) (k := k) (by omega)
    rw [← hnk, hnt] at hrow
    refine O_nil ⟨_, ?_, [(1, _), (5, _), (6, _), (19, _), (20, _), (21, _)], ⟨rfl, rfl, rfl, rfl, rfl, rfl, trivial⟩, ⟨k + 1, _, by omega, rfl, rfl, by rw [← hrow]; exact hs.weak hs.le (Ghost.le.refl _) (List.sublist_append_left [_, _, _] _)⟩⟩
    omega
   ·
    dsimp only [cmpP] at h29
    refine O_a rfl ?_
    refine O_nil (T_kp [1, 5, 6, 7, 8, 19, 20, 21, 27, 28] rfl ?_)
    refine T_condF rfl (T_seq (T_region rfl ?_))
    refine O_y hs (Y_cmpS rfl rfl rfl (fun h34 => ?_) (fun h34 => ?_))
    ·
     dsimp only [cmpP] at h34
     refine O_a rfl ?_
     refine O_nil (T_kp [1, 5, 6, 7, 8, 19, 20, 21, 27, 33] rfl ?_)
     refine T_condT rfl (T_region rfl ?_)
     refine O_y hs (Y_ld 2 Tryz.isAgg65 rfl rfl rfl ?_)
     refine O_m rfl ?_
     refine O_y hs (Y_idxRow (k) Tryz.underlying65 Tryz.sizeOf9 rfl rfl rfl (by omega) ?_)
     have hs := hs.f3
     refine O_n (S_stRow hs Tryz.sizeOf9 rfl rfl rfl (by omega) fun _ hs => ?_)
     refine O_nil (T_kp [1, 5, 6, 19, 20, 21] rfl ?_)
     refine T_region rfl ?_
     refine O_y hs (Y_add (c := ((k + 1 : Nat) : Int)) rfl rfl (by omega) (by omega) ?_)
     refine O_m rfl ?_
     have hs := hs.f3
     have hs := hs.f3
     have hnt : nodeT l (textsF l k) ⟨kd, [c0, c1, c2, c3], ll, rr, mn, mx⟩ = [40, 41] := by unfold nodeT; rw [if_neg (by dsimp only; omega), if_pos (by dsimp only; omega)]; try rfl
     have hrow := row_step (l := l) (k := k) (by omega)
     rw [← hnk, hnt] at hrow
     refine O_nil ⟨_, ?_, [(1, _), (5, _), (6, _), (19, _), (20, _), (21, _)], ⟨rfl, rfl, rfl, rfl, rfl, rfl, trivial⟩, ⟨k + 1, _, by omega, rfl, rfl, by rw [← hrow]; exact hs.weak hs.le (Ghost.le.refl _) (List.sublist_append_left [_, _, _] _)⟩⟩
     omega
    ·
     dsimp only [cmpP] at h34
     refine O_a rfl ?_
     refine O_nil (T_kp [1, 5, 6, 7, 8, 19, 20, 21, 27, 33] rfl ?_)
     refine T_condF rfl (T_seq (T_region rfl ?_))
     refine O_y hs (Y_cmpS rfl rfl rfl (fun h39 => ?_) (fun h39 => ?_))
     ·
      dsimp only [cmpP] at h39
      refine O_a rfl ?_
      refine O_nil (T_kp [1, 5, 6, 7, 8, 19, 20, 21, 27, 38] rfl ?_)
      have hs := hs.f3
      have hs := hs.f3
      have hs := hs.f3
      refine T_condT rfl (T_drawS [0, 1, 2, 3, 4, 5] hs (by kernel_rfl) ?_)
      replace hs := hs.drew
      refine A_take 0 rfl (by kernel_rfl) rfl hs (Y_ld 1 Tryz.isAgg65 rfl rfl rfl ?_)
      refine A_take 1 rfl (by kernel_rfl) rfl hs (Y_move rfl ?_)
      refine A_take 2 rfl (by kernel_rfl) rfl hs (Y_fieldAddr FO42_1 rfl (m := 1) rfl ?_)
      refine A_take 3 rfl (by kernel_rfl) rfl hs (Y_ldA 3 Tryz.isAgg40 Tryz.sizeOf40 rfl rfl (vs := [_, _, _, _]) rfl rfl ?_)
      have hle := hs.le
      refine A_only 4 rfl (by kernel_rfl) rfl (S_call (H1 := []) hs rfl Tryz.func39 rfl (by kernel_rfl) (cltx_ok (c := [c0, c1, c2, c3]) hco hT) fun v2 G' H' _ hR hG44 hs => ?_)
      obtain ⟨rfl, rfl⟩ := hR
      replace hs : St _ _ [_, _, _, _] _ := hs
      replace hx := hx.mono hG44
      replace hT := hT.mono hG44
      refine A_moreS hs hle hG44 (List.Sublist.refl _) ?_
      refine A_take 5 rfl (by kernel_rfl) rfl hs (Y_idxRow (k) Tryz.underlying65 Tryz.sizeOf9 rfl rfl rfl (by omega) ?_)
      have hs := hs.f2
      refine A_tailN 6 rfl (by kernel_rfl) (by kernel_rfl) rfl (S_stRow hs Tryz.sizeOf9 rfl rfl rfl (by omega) fun _ hs => ?_)
      refine A_done (by kernel_rfl) (T_kp [1, 5, 6, 19, 20, 21] rfl ?_)
      refine T_region rfl ?_
      refine O_y hs (Y_add (c := ((k + 1 : Nat) : Int)) rfl rfl (by omega) (by omega) ?_)
      refine O_m rfl ?_
      have hs := hs.f2
      have hs := hs.f2
      have hnt : nodeT l (textsF l k) ⟨kd, [c0, c1, c2, c3], ll, rr, mn, mx⟩ = classT (bytesF [c0, c1, c2, c3]) := by unfold nodeT; rw [if_neg (by dsimp only; omega), if_neg (by dsimp only; omega), if_pos (by dsimp only; omega)]; try rfl
      have hrow := row_step (l := l) (k := k) (by omega)
      rw [← hnk, hnt] at hrow
      refine O_nil ⟨_, ?_, [(1, _), (5, _), (6, _), (19, _), (20, _), (21, _)], ⟨rfl, rfl, rfl, rfl, rfl, rfl, trivial⟩, ⟨k + 1, _, by omega, rfl, rfl, by rw [← hrow]; exact hs.weak hs.le (Ghost.le.refl _) (List.sublist_append_left [_, _, _] _)⟩⟩
      omega
     ·
      dsimp only [cmpP] at h39
      refine O_a rfl ?_
      refine O_nil (T_kp [1, 5, 6, 7, 8, 19, 20, 21, 27, 38] rfl ?_)
      refine T_condF rfl (T_seq (T_region rfl ?_))
      refine O_y hs (Y_cmpS rfl rfl rfl (fun h47 => ?_) (fun h47 => ?_))
      ·
       dsimp only [cmpP] at h47
       refine O_a rfl ?_
       refine O_nil (T_kp [1, 5, 6, 7, 8, 19, 20, 21, 27, 46] rfl ?_)
       have hs := hs.f3
       have hs := hs.f3
       have hs := hs.f3
       have ha := arF_2 (k := kd) (by omega)
       have hl12 := ops_l hop (by dsimp only; omega)
       dsimp only at hl12
       obtain ⟨L, rfl⟩ : ∃ L : Nat, ll = (L : Int) := Int.eq_ofNat_of_zero_le hl12.1
       have hbL : ((textsF l k).getD L []).length ≤ 480000 := hfb.1 (by dsimp only; omega)
       have hr12 := ops_r hop (by dsimp only; omega)
       dsimp only at hr12
       obtain ⟨R, rfl⟩ : ∃ R : Nat, rr = (R : Int) := Int.eq_ofNat_of_zero_le hr12.1
       have hbR : ((textsF l k).getD R []).length ≤ 480000 := hfb.2 (by dsimp only; omega)
       have hw0 := wrap_len l (textsF l k) [5, 6] L
       have hw1 := wrap_len l (textsF l k) [4, 5, 6] R
       refine T_condT rfl (T_drawS [0, 1, 2, 3, 4, 5, 6, 7, 8, 9, 10, 11, 12, 13] hs (by kernel_rfl) ?_)
       replace hs := hs.drew
       refine A_take 0 rfl (by kernel_rfl) rfl hs (Y_ld 1 Tryz.isAgg65 rfl rfl rfl ?_)
       refine A_take 1 rfl (by kernel_rfl) rfl hs (Y_move rfl ?_)
       refine A_take 2 rfl (by kernel_rfl) rfl hs (Y_move rfl ?_)
       refine A_take 3 rfl (by kernel_rfl) rfl hs (Y_fieldAddr FO42_2 rfl (m := 5) rfl ?_)
       refine A_take 4 rfl (by kernel_rfl) rfl hs (Y_ld 3 Tryz.isAgg3 rfl rfl rfl ?_)
       refine A_take 7 rfl (by kernel_rfl) rfl hs (Y_move rfl ?_)
       refine A_take 8 rfl (by kernel_rfl) rfl hs (Y_fieldAddr FO42_3 rfl (m := 6) rfl ?_)
       refine A_take 9 rfl (by kernel_rfl) rfl hs (Y_ld 3 Tryz.isAgg3 rfl rfl rfl ?_)
       refine A_two 5 10 rfl rfl (by kernel_rfl) rfl rfl ?_ ?_
       ·
        have hle := hs.le
        refine S_lit hs Tryz.underlying66 Tryz.sizeOf3 Tryz.zeroValue3 rfl rfl (by decide) (by decide) rfl (cs := [_, _]) rfl rfl fun v3 _ hs _ => ?_
        obtain ⟨_, hG53, hl53, hs⟩ := hs.fixRow noM
        replace hx := hx.mono hG53
        replace hT := hT.mono hG53
        refine A_moreS hs hle hG53 (List.Sublist.refl _) ?_
        refine A_two 6 10 rfl rfl (by kernel_rfl) rfl rfl ?_ ?_
        ·
         have hs := hs.f2
         have hs := hs.f2
         have hs := hs.f2
         have hle := hs.le
         refine S_callV (args := [_, _]) (lb := [_, _]) (H1 := [_, _, _]) hs rfl rfl Tryz.func38 rfl (by kernel_rfl) (wrp_ok (T := textsF l k) hx (show Ints _ _ [5, 6] from hl53) (i := L) (by omega) (by omega) (by omega) (by decide) (by omega)) fun v4 G' H' _ hR hG54 hs => ?_
         obtain ⟨rfl, rfl⟩ := hR
         replace hs : St _ _ [_, _, _, _] _ := hs
         replace hx := hx.mono hG54
         replace hT := hT.mono hG54
         replace hl53 := hl53.mono hG54
         refine A_moreS hs hle hG54 (List.Sublist.refl _) ?_
         have hle := hs.le
         refine A_only 10 rfl (by kernel_rfl) rfl (S_lit hs Tryz.underlying66 Tryz.sizeOf3 Tryz.zeroValue3 rfl rfl (by decide) (by decide) rfl (cs := [_, _, _]) rfl rfl fun v5 _ hs _ => ?_)
         obtain ⟨_, hG58, hl58, hs⟩ := hs.fixRow noM
         replace hx := hx.mono hG58
         replace hT := hT.mono hG58
         replace hl53 := hl53.mono hG58
         refine A_moreS hs hle hG58 (List.Sublist.refl _) ?_
         have hs := hs.f2
         have hs := hs.f2
         have hs := hs.f2
         have hle := hs.le
         refine A_only 11 rfl (by kernel_rfl) rfl (S_callV (args := [_, _]) (lb := [_, _]) (H1 := [_, _, _]) hs rfl rfl Tryz.func38 rfl (by kernel_rfl) (wrp_ok (T := textsF l k) hx (show Ints _ _ [4, 5, 6] from hl58) (i := R) (by omega) (by omega) (by omega) (by decide) (by omega)) fun v6 G' H' _ hR hG59 hs => ?_)
         obtain ⟨rfl, rfl⟩ := hR
         replace hs : St _ _ [_, _, _, _] _ := hs
         replace hx := hx.mono hG59
         replace hT := hT.mono hG59
         replace hl53 := hl53.mono hG59
         replace hl58 := hl58.mono hG59
         refine A_moreS hs hle hG59 (List.Sublist.refl _) ?_
         refine A_take 12 rfl (by kernel_rfl) rfl hs (Y_cat rfl rfl (by first | omega | (simp only [List.length_append, List.length_cons, List.length_nil]; omega)) ?_)
         refine A_take 13 rfl (by kernel_rfl) rfl hs (Y_idxRow (k) Tryz.underlying65 Tryz.sizeOf9 rfl rfl rfl (by omega) ?_)
         have hs := hs.f2
         refine A_tailN 14 rfl (by kernel_rfl) (by kernel_rfl) rfl (S_stRow hs Tryz.sizeOf9 rfl rfl rfl (by omega) fun _ hs => ?_)
         refine A_done (by kernel_rfl) (T_kp [1, 5, 6, 19, 20, 21] rfl ?_)
         refine T_region rfl ?_
         refine O_y hs (Y_add (c := ((k + 1 : Nat) : Int)) rfl rfl (by omega) (by omega) ?_)
         refine O_m rfl ?_
         have hs := hs.f2
         have hs := hs.f2
         have hnt : nodeT l (textsF l k) ⟨kd, [c0, c1, c2, c3], (L : Int), (R : Int), mn, mx⟩ = wrapF l (textsF l k) [5, 6] L ++ wrapF l (textsF l k) [4, 5, 6] R := by unfold nodeT; rw [if_neg (by dsimp only; omega), if_neg (by dsimp only; omega), if_neg (by dsimp only; omega), if_pos (by dsimp only; omega)]; try rfl
         have hrow := row_step (l := l) (k := k) (by omega)
         rw [← hnk, hnt] at hrow
         refine O_nil ⟨_, ?_, [(1, _), (5, _), (6, _), (19, _), (20, _), (21, _)], ⟨rfl, rfl, rfl, rfl, rfl, rfl, trivial⟩, ⟨k + 1, _, by omega, rfl, rfl, by rw [← hrow]; exact hs.weak hs.le (Ghost.le.refl _) (List.sublist_append_left [_, _, _] _)⟩⟩
         omega
        ·
         have hle := hs.le
         refine S_lit hs Tryz.underlying66 Tryz.sizeOf3 Tryz.zeroValue3 rfl rfl (by decide) (by decide) rfl (cs := [_, _, _]) rfl rfl fun v7 _ hs _ => ?_
         obtain ⟨_, hG58, hl58, hs⟩ := hs.fixRow noM
         replace hx := hx.mono hG58
         replace hT := hT.mono hG58
         replace hl53 := hl53.mono hG58
         refine A_moreS hs hle hG58 (List.Sublist.refl _) ?_
         have hs := hs.f2
         have hs := hs.f2
         have hs := hs.f2
         have hle := hs.le
         refine A_only 6 rfl (by kernel_rfl) rfl (S_callV (args := [_, _]) (lb := [_, _]) (H1 := [_, _, _]) hs rfl rfl Tryz.func38 rfl (by kernel_rfl) (wrp_ok (T := textsF l k) hx (show Ints _ _ [5, 6] from hl53) (i := L) (by omega) (by omega) (by omega) (by decide) (by omega)) fun v8 G' H' _ hR hG54 hs => ?_)
         obtain ⟨rfl, rfl⟩ := hR
         replace hs : St _ _ [_, _, _, _] _ := hs
         replace hx := hx.mono hG54
         replace hT := hT.mono hG54
         replace hl53 := hl53.mono hG54
         replace hl58 := hl58.mono hG54
         refine A_moreS hs hle hG54 (List.Sublist.refl _) ?_
         have hs := hs.f2
         have hs := hs.f2
         have hs := hs.f2
         have hle := hs.le
         refine A_only 11 rfl (by kernel_rfl) rfl (S_callV (args := [_, _]) (lb := [_, _]) (H1 := [_, _, _]) hs rfl rfl Tryz.func38 rfl (by kernel_rfl) (wrp_ok (T := textsF l k) hx (show Ints _ _ [4, 5, 6] from hl58) (i := R) (by omega) (by omega) (by omega) (by decide) (by omega)) fun v9 G' H' _ hR hG59 hs => ?_)
         obtain ⟨rfl, rfl⟩ := hR
         replace hs : St _ _ [_, _, _, _] _ := hs
         replace hx := hx.mono hG59
         replace hT := hT.mono hG59
         replace hl53 := hl53.mono hG59
         replace hl58 := hl58.mono hG59
         refine A_moreS hs hle hG59 (List.Sublist.refl _) ?_
         refine A_take 12 rfl (by kernel_rfl) rfl hs (Y_cat rfl rfl (by first | omega | (simp only [List.length_append, List.length_cons, List.length_nil]; omega)) ?_)
         refine A_take 13 rfl (by kernel_rfl) rfl hs (Y_idxRow (k) Tryz.underlying65 Tryz.sizeOf9 rfl rfl rfl (by omega) ?_)
         have hs := hs.f2
         refine A_tailN 14 rfl (by kernel_rfl) (by kernel_rfl) rfl (S_stRow hs Tryz.sizeOf9 rfl rfl rfl (by omega) fun _ hs => ?_)
         refine A_done (by kernel_rfl) (T_kp [1, 5, 6, 19, 20, 21] rfl ?_)
         refine T_region rfl ?_
         refine O_y hs (Y_add (c := ((k + 1 : Nat) : Int)) rfl rfl (by omega) (by omega) ?_)
         refine O_m rfl ?_
         have hs := hs.f2
         have hs := hs.f2
         have hnt : nodeT l (textsF l k) ⟨kd, [c0, c1, c2, c3], (L : Int), (R : Int), mn, mx⟩ = wrapF l (textsF l k) [5, 6] L ++ wrapF l (textsF l k) [4, 5, 6] R := by unfold nodeT; rw [if_neg (by dsimp only; omega), if_neg (by dsimp only; omega), if_neg (by dsimp only; omega), if_pos (by dsimp only; omega)]; try rfl
         have hrow := row_step (l := l) (k := k) (by omega)
         rw [← hnk, hnt] at hrow
         refine O_nil ⟨_, ?_, [(1, _), (5, _), (6, _), (19, _), (20, _), (21, _)], ⟨rfl, rfl, rfl, rfl, rfl, rfl, trivial⟩, ⟨k + 1, _, by omega, rfl, rfl, by rw [← hrow]; exact hs.weak hs.le (Ghost.le.refl _) (List.sublist_append_left [_, _, _] _)⟩⟩
         omega
       ·
        have hle := hs.le
        refine S_lit hs Tryz.underlying66 Tryz.sizeOf3 Tryz.zeroValue3 rfl rfl (by decide) (by decide) rfl (cs := [_, _, _]) rfl rfl fun v10 _ hs _ => ?_
        obtain ⟨_, hG58, hl58, hs⟩ := hs.fixRow noM
        replace hx := hx.mono hG58
        replace hT := hT.mono hG58
        refine A_moreS hs hle hG58 (List.Sublist.refl _) ?_
        have hle := hs.le
        refine A_only 5 rfl (by kernel_rfl) rfl (S_lit hs Tryz.underlying66 Tryz.sizeOf3 Tryz.zeroValue3 rfl rfl (by decide) (by decide) rfl (cs := [_, _]) rfl rfl fun v11 _ hs _ => ?_)
        obtain ⟨_, hG53, hl53, hs⟩ := hs.fixRow noM
        replace hx := hx.mono hG53
        replace hT := hT.mono hG53
        replace hl58 := hl58.mono hG53
        refine A_moreS hs hle hG53 (List.Sublist.refl _) ?_
        have hs := hs.f2
        have hs := hs.f2
        have hs := hs.f2
        have hle := hs.le
        refine A_only 6 rfl (by kernel_rfl) rfl (S_callV (args := [_, _]) (lb := [_, _]) (H1 := [_, _, _]) hs rfl rfl Tryz.func38 rfl (by kernel_rfl) (wrp_ok (T := textsF l k) hx (show Ints _ _ [5, 6] from hl53) (i := L) (by omega) (by omega) (by omega) (by decide) (by omega)) fun v12 G' H' _ hR hG54 hs => ?_)
        obtain ⟨rfl, rfl⟩ := hR
        replace hs : St _ _ [_, _, _, _] _ := hs
        replace hx := hx.mono hG54
        replace hT := hT.mono hG54
        replace hl58 := hl58.mono hG54
        replace hl53 := hl53.mono hG54
        refine A_moreS hs hle hG54 (List.Sublist.refl _) ?_
        have hs := hs.f2
        have hs := hs.f2
        have hs := hs.f2
        have hle := hs.le
        refine A_only 11 rfl (by kernel_rfl) rfl (S_callV (args := [_, _]) (lb := [_, _]) (H1 := [_, _, _]) hs rfl rfl Tryz.func38 rfl (by kernel_rfl) (wrp_ok (T := textsF l k) hx (show Ints _ _ [4, 5, 6] from hl58) (i := R) (by omega) (by omega) (by omega) (by decide) (by omega)) fun v13 G' H' _ hR hG59 hs => ?_)
        obtain ⟨rfl, rfl⟩ := hR
        replace hs : St _ _ [_, _, _, _] _ := hs
        replace hx := hx.mono hG59
        replace hT := hT.mono hG59
        replace hl58 := hl58.mono hG59
        replace hl53 := hl53.mono hG59
        refine A_moreS hs hle hG59 (List.Sublist.refl _) ?_
        refine A_take 12 rfl (by kernel_rfl) rfl hs (Y_cat rfl rfl (by first | omega | (simp only [List.length_append, List.length_cons, List.length_nil]; omega)) ?_)
        refine A_take 13 rfl (by kernel_rfl) rfl hs (Y_idxRow (k) Tryz.underlying65 Tryz.sizeOf9 rfl rfl rfl (by omega) ?_)
        have hs := hs.f2
        refine A_tailN 14 rfl (by kernel_rfl) (by kernel_rfl) rfl (S_stRow hs Tryz.sizeOf9 rfl rfl rfl (by omega) fun _ hs => ?_)
        refine A_done (by kernel_rfl) (T_kp [1, 5, 6, 19, 20, 21] rfl ?_)
        refine T_region rfl ?_
        refine O_y hs (Y_add (c := ((k + 1 : Nat) : Int)) rfl rfl (by omega) (by omega) ?_)
        refine O_m rfl ?_
        have hs := hs.f2
        have hs := hs.f2
        have hnt : nodeT l (textsF l k) ⟨kd, [c0, c1, c2, c3], (L : Int), (R : Int), mn, mx⟩ = wrapF l (textsF l k) [5, 6] L ++ wrapF l (textsF l k) [4, 5, 6] R := by unfold nodeT; rw [if_neg (by dsimp only; omega), if_neg (by dsimp only; omega), if_neg (by dsimp only; omega), if_pos (by dsimp only; omega)]; try rfl
        have hrow := row_step (l := l) (k := k) (by omega)
        rw [← hnk, hnt] at hrow
        refine O_nil ⟨_, ?_, [(1, _), (5, _), (6, _), (19, _), (20, _), (21, _)], ⟨rfl, rfl, rfl, rfl, rfl, rfl, trivial⟩, ⟨k + 1, _, by omega, rfl, rfl, by rw [← hrow]; exact hs.weak hs.le (Ghost.le.refl _) (List.sublist_append_left [_, _, _] _)⟩⟩
        omega
      ·
       dsimp only [cmpP] at h47
       refine O_a rfl ?_
       refine O_nil (T_kp [1, 5, 6, 7, 8, 19, 20, 21, 27, 46] rfl ?_)
       refine T_condF rfl (T_seq (T_region rfl ?_))
       refine O_y hs (Y_cmpS rfl rfl rfl (fun h63 => ?_) (fun h63 => ?_))
       ·
        dsimp only [cmpP] at h63
        refine O_a rfl ?_
        refine O_nil (T_kp [1, 5, 6, 7, 8, 19, 20, 21, 27, 62] rfl ?_)
        have hs := hs.f3
        have hs := hs.f3
        have hs := hs.f3
        have ha := arF_2 (k := kd) (by omega)
        have hl12 := ops_l hop (by dsimp only; omega)
        dsimp only at hl12
        obtain ⟨L, rfl⟩ : ∃ L : Nat, ll = (L : Int) := Int.eq_ofNat_of_zero_le hl12.1
        have hbL : ((textsF l k).getD L []).length ≤ 480000 := hfb.1 (by dsimp only; omega)
        have hr12 := ops_r hop (by dsimp only; omega)
        dsimp only at hr12
        obtain ⟨R, rfl⟩ : ∃ R : Nat, rr = (R : Int) := Int.eq_ofNat_of_zero_le hr12.1
        have hbR : ((textsF l k).getD R []).length ≤ 480000 := hfb.2 (by dsimp only; omega)
        have hw0 := wrap_len l (textsF l k) [5] R
        refine T_condT rfl (T_drawS [0, 1, 2, 3, 4, 5, 6, 7, 8, 9, 10, 11, 12, 13, 14] hs (by kernel_rfl) ?_)
        replace hs := hs.drew
        refine A_take 0 rfl (by kernel_rfl) rfl hs (Y_ld 1 Tryz.isAgg65 rfl rfl rfl ?_)
        refine A_take 1 rfl (by kernel_rfl) rfl hs (Y_move rfl ?_)
        refine A_take 2 rfl (by kernel_rfl) rfl hs (Y_ld 1 Tryz.isAgg65 rfl rfl rfl ?_)
        refine A_take 3 rfl (by kernel_rfl) rfl hs (Y_fieldAddr FO42_2 rfl (m := 5) rfl ?_)
        refine A_take 4 rfl (by kernel_rfl) rfl hs (Y_ld 3 Tryz.isAgg3 rfl rfl rfl ?_)
        refine A_take 5 rfl (by kernel_rfl) rfl hs (Y_idxRow (L) Tryz.underlying65 Tryz.sizeOf9 rfl rfl rfl (by omega) ?_)
        refine A_take 6 rfl (by kernel_rfl) rfl hs (Y_ldRow 2 rfl Tryz.isAgg9 rfl (by rw [List.getElem?_map, padT_at (by omega)]; rfl) ?_)
        refine A_take 7 rfl (by kernel_rfl) rfl hs (Y_cat rfl rfl (by first | omega | (simp only [List.length_append, List.length_cons, List.length_nil]; omega)) ?_)
        refine A_take 8 rfl (by kernel_rfl) rfl hs (Y_move rfl ?_)
        refine A_take 9 rfl (by kernel_rfl) rfl hs (Y_fieldAddr FO42_3 rfl (m := 6) rfl ?_)
        refine A_take 10 rfl (by kernel_rfl) rfl hs (Y_ld 3 Tryz.isAgg3 rfl rfl rfl ?_)
        have hle := hs.le
        refine A_only 11 rfl (by kernel_rfl) rfl (S_lit hs Tryz.underlying66 Tryz.sizeOf3 Tryz.zeroValue3 rfl rfl (by decide) (by decide) rfl (cs := [_]) rfl rfl fun v14 _ hs _ => ?_)
        obtain ⟨_, hG75, hl75, hs⟩ := hs.fixRow noM
        replace hx := hx.mono hG75
        replace hT := hT.mono hG75
        refine A_moreS hs hle hG75 (List.Sublist.refl _) ?_
        have hs := hs.f2
        have hs := hs.f2
        have hs := hs.f2
        have hle := hs.le
        refine A_only 12 rfl (by kernel_rfl) rfl (S_callV (args := [_, _]) (lb := [_, _]) (H1 := [_, _, _]) hs rfl rfl Tryz.func38 rfl (by kernel_rfl) (wrp_ok (T := textsF l k) hx (show Ints _ _ [5] from hl75) (i := R) (by omega) (by omega) (by omega) (by decide) (by omega)) fun v15 G' H' _ hR hG76 hs => ?_)
        obtain ⟨rfl, rfl⟩ := hR
        replace hs : St _ _ [_, _, _, _] _ := hs
        replace hx := hx.mono hG76
        replace hT := hT.mono hG76
        replace hl75 := hl75.mono hG76
        refine A_moreS hs hle hG76 (List.Sublist.refl _) ?_
        refine A_take 13 rfl (by kernel_rfl) rfl hs (Y_cat rfl rfl (by first | omega | (simp only [List.length_append, List.length_cons, List.length_nil]; omega)) ?_)
        refine A_take 14 rfl (by kernel_rfl) rfl hs (Y_idxRow (k) Tryz.underlying65 Tryz.sizeOf9 rfl rfl rfl (by omega) ?_)
        have hs := hs.f2
        refine A_tailN 15 rfl (by kernel_rfl) (by kernel_rfl) rfl (S_stRow hs Tryz.sizeOf9 rfl rfl rfl (by omega) fun _ hs => ?_)
        refine A_done (by kernel_rfl) (T_kp [1, 5, 6, 19, 20, 21] rfl ?_)
        refine T_region rfl ?_
        refine O_y hs (Y_add (c := ((k + 1 : Nat) : Int)) rfl rfl (by omega) (by omega) ?_)
        refine O_m rfl ?_
        have hs := hs.f2
        have hs := hs.f2
        have hnt : nodeT l (textsF l k) ⟨kd, [c0, c1, c2, c3], (L : Int), (R : Int), mn, mx⟩ = (textsF l k).getD L [] ++ [124] ++ wrapF l (textsF l k) [5] R := by unfold nodeT; rw [if_neg (by dsimp only; omega), if_neg (by dsimp only; omega), if_neg (by dsimp only; omega), if_neg (by dsimp only; omega), if_pos (by dsimp only; omega)]; try rfl
        have hrow := row_step (l := l) (k := k) (by omega)
        rw [← hnk, hnt] at hrow
        refine O_nil ⟨_, ?_, [(1, _), (5, _), (6, _), (19, _), (20, _), (21, _)], ⟨rfl, rfl, rfl, rfl, rfl, rfl, trivial⟩, ⟨k + 1, _, by omega, rfl, rfl, by rw [← hrow]; exact hs.weak hs.le (Ghost.le.refl _) (List.sublist_append_left [_, _, _] _)⟩⟩
        omega
       ·
        dsimp only [cmpP] at h63
        refine O_a rfl ?_
        refine O_nil (T_kp [1, 5, 6, 7, 8, 19, 20, 21, 27, 62] rfl ?_)
        refine T_condF rfl (T_seq (T_region rfl ?_))
        refine O_y hs (Y_cmpS rfl rfl rfl (fun h80 => ?_) (fun h80 => ?_))
        ·
         dsimp only [cmpP] at h80
         refine O_a rfl ?_
         refine O_nil (T_kp [1, 5, 6, 7, 8, 19, 20, 21, 27, 79] rfl ?_)
         have hs := hs.f3
         have hs := hs.f3
         have hs := hs.f3
         have ha := arF_2 (k := kd) (by omega)
         have hl12 := ops_l hop (by dsimp only; omega)
         dsimp only at hl12
         obtain ⟨L, rfl⟩ : ∃ L : Nat, ll = (L : Int) := Int.eq_ofNat_of_zero_le hl12.1
         have hbL : ((textsF l k).getD L []).length ≤ 480000 := hfb.1 (by dsimp only; omega)
         have hr12 := ops_r hop (by dsimp only; omega)
         dsimp only at hr12
         obtain ⟨R, rfl⟩ : ∃ R : Nat, rr = (R : Int) := Int.eq_ofNat_of_zero_le hr12.1
         have hbR : ((textsF l k).getD R []).length ≤ 480000 := hfb.2 (by dsimp only; omega)
         have hw0 := wrap_len l (textsF l k) [5] L
         have hw1 := wrap_len l (textsF l k) [5, 6] R
         refine T_condT rfl (T_drawS [0, 1, 2, 3, 4, 5, 6, 7, 8, 9, 10, 11, 12, 13, 14] hs (by kernel_rfl) ?_)
         replace hs := hs.drew
         refine A_take 0 rfl (by kernel_rfl) rfl hs (Y_ld 1 Tryz.isAgg65 rfl rfl rfl ?_)
         refine A_take 1 rfl (by kernel_rfl) rfl hs (Y_move rfl ?_)
         refine A_take 2 rfl (by kernel_rfl) rfl hs (Y_move rfl ?_)
         refine A_take 3 rfl (by kernel_rfl) rfl hs (Y_fieldAddr FO42_2 rfl (m := 5) rfl ?_)
         refine A_take 4 rfl (by kernel_rfl) rfl hs (Y_ld 3 Tryz.isAgg3 rfl rfl rfl ?_)
         refine A_take 8 rfl (by kernel_rfl) rfl hs (Y_move rfl ?_)
         refine A_take 9 rfl (by kernel_rfl) rfl hs (Y_fieldAddr FO42_3 rfl (m := 6) rfl ?_)
         refine A_take 10 rfl (by kernel_rfl) rfl hs (Y_ld 3 Tryz.isAgg3 rfl rfl rfl ?_)
         refine A_two 5 11 rfl rfl (by kernel_rfl) rfl rfl ?_ ?_
         ·
          have hle := hs.le
          refine S_lit hs Tryz.underlying66 Tryz.sizeOf3 Tryz.zeroValue3 rfl rfl (by decide) (by decide) rfl (cs := [_]) rfl rfl fun v16 _ hs _ => ?_
          obtain ⟨_, hG86, hl86, hs⟩ := hs.fixRow noM
          replace hx := hx.mono hG86
          replace hT := hT.mono hG86
          refine A_moreS hs hle hG86 (List.Sublist.refl _) ?_
          refine A_two 6 11 rfl rfl (by kernel_rfl) rfl rfl ?_ ?_
          ·
           have hs := hs.f2
           have hs := hs.f2
           have hs := hs.f2
           have hle := hs.le
           refine S_callV (args := [_, _]) (lb := [_, _]) (H1 := [_, _, _]) hs rfl rfl Tryz.func38 rfl (by kernel_rfl) (wrp_ok (T := textsF l k) hx (show Ints _ _ [5] from hl86) (i := L) (by omega) (by omega) (by omega) (by decide) (by omega)) fun v17 G' H' _ hR hG87 hs => ?_
           obtain ⟨rfl, rfl⟩ := hR
           replace hs : St _ _ [_, _, _, _] _ := hs
           replace hx := hx.mono hG87
           replace hT := hT.mono hG87
           replace hl86 := hl86.mono hG87
           refine A_moreS hs hle hG87 (List.Sublist.refl _) ?_
           refine A_take 7 rfl (by kernel_rfl) rfl hs (Y_cat rfl rfl (by first | omega | (simp only [List.length_append, List.length_cons, List.length_nil]; omega)) ?_)
           have hle := hs.le
           refine A_only 11 rfl (by kernel_rfl) rfl (S_lit hs Tryz.underlying66 Tryz.sizeOf3 Tryz.zeroValue3 rfl rfl (by decide) (by decide) rfl (cs := [_, _]) rfl rfl fun v18 _ hs _ => ?_)
           obtain ⟨_, hG92, hl92, hs⟩ := hs.fixRow noM
           replace hx := hx.mono hG92
           replace hT := hT.mono hG92
           replace hl86 := hl86.mono hG92
           refine A_moreS hs hle hG92 (List.Sublist.refl _) ?_
           have hs := hs.f2
           have hs := hs.f2
           have hs := hs.f2
           have hle := hs.le
           refine A_only 12 rfl (by kernel_rfl) rfl (S_callV (args := [_, _]) (lb := [_, _]) (H1 := [_, _, _]) hs rfl rfl Tryz.func38 rfl (by kernel_rfl) (wrp_ok (T := textsF l k) hx (show Ints _ _ [5, 6] from hl92) (i := R) (by omega) (by omega) (by omega) (by decide) (by omega)) fun v19 G' H' _ hR hG93 hs => ?_)
           obtain ⟨rfl, rfl⟩ := hR
           replace hs : St _ _ [_, _, _, _] _ := hs
           replace hx := hx.mono hG93
           replace hT := hT.mono hG93
           replace hl86 := hl86.mono hG93
           replace hl92 := hl92.mono hG93
           refine A_moreS hs hle hG93 (List.Sublist.refl _) ?_
           refine A_take 13 rfl (by kernel_rfl) rfl hs (Y_cat rfl rfl (by first | omega | (simp only [List.length_append, List.length_cons, List.length_nil]; omega)) ?_)
           refine A_take 14 rfl (by kernel_rfl) rfl hs (Y_idxRow (k) Tryz.underlying65 Tryz.sizeOf9 rfl rfl rfl (by omega) ?_)
           have hs := hs.f2
           refine A_tailN 15 rfl (by kernel_rfl) (by kernel_rfl) rfl (S_stRow hs Tryz.sizeOf9 rfl rfl rfl (by omega) fun _ hs => ?_)
           refine A_done (by kernel_rfl) (T_kp [1, 5, 6, 19, 20, 21] rfl ?_)
           refine T_region rfl ?_
           refine O_y hs (Y_add (c := ((k + 1 : Nat) : Int)) rfl rfl (by omega) (by omega) ?_)
           refine O_m rfl ?_
           have hs := hs.f2
           have hs := hs.f2
           have hnt : nodeT l (textsF l k) ⟨kd, [c0, c1, c2, c3], (L : Int), (R : Int), mn, mx⟩ = wrapF l (textsF l k) [5] L ++ [38] ++ wrapF l (textsF l k) [5, 6] R := by unfold nodeT; rw [if_neg (by dsimp only; omega), if_neg (by dsimp only; omega), if_neg (by dsimp only; omega), if_neg (by dsimp only; omega), if_neg (by dsimp only; omega), if_pos (by dsimp only; omega)]; try rfl
           have hrow := row_step (l := l) (k := k) (by omega)
           rw [← hnk, hnt] at hrow
           refine O_nil ⟨_, ?_, [(1, _), (5, _), (6, _), (19, _), (20, _), (21, _)], ⟨rfl, rfl, rfl, rfl, rfl, rfl, trivial⟩, ⟨k + 1, _, by omega, rfl, rfl, by rw [← hrow]; exact hs.weak hs.le (Ghost.le.refl _) (List.sublist_append_left [_, _, _] _)⟩⟩
           omega
          ·
           have hle := hs.le
           refine S_lit hs Tryz.underlying66 Tryz.sizeOf3 Tryz.zeroValue3 rfl rfl (by decide) (by decide) rfl (cs := [_, _]) rfl rfl fun v20 _ hs _ => ?_
           obtain ⟨_, hG92, hl92, hs⟩ := hs.fixRow noM
           replace hx := hx.mono hG92
           replace hT := hT.mono hG92
           replace hl86 := hl86.mono hG92
           refine A_moreS hs hle hG92 (List.Sublist.refl _) ?_
           have hs := hs.f2
           have hs := hs.f2
           have hs := hs.f2
           have hle := hs.le
           refine A_only 6 rfl (by kernel_rfl) rfl (S_callV (args := [_, _]) (lb := [_, _]) (H1 := [_, _, _]) hs rfl rfl Tryz.func38 rfl (by kernel_rfl) (wrp_ok (T := textsF l k) hx (show Ints _ _ [5] from hl86) (i := L) (by omega) (by omega) (by omega) (by decide) (by omega)) fun v21 G' H' _ hR hG87 hs => ?_)
           obtain ⟨rfl, rfl⟩ := hR
           replace hs : St _ _ [_, _, _, _] _ := hs
           replace hx := hx.mono hG87
           replace hT := hT.mono hG87
           replace hl86 := hl86.mono hG87
           replace hl92 := hl92.mono hG87
           refine A_moreS hs hle hG87 (List.Sublist.refl _) ?_
           refine A_take 7 rfl (by kernel_rfl) rfl hs (Y_cat rfl rfl (by first | omega | (simp only [List.length_append, List.length_cons, List.length_nil]; omega)) ?_)
           have hs := hs.f2
           have hs := hs.f2
           have hs := hs.f2
           have hle := hs.le
           refine A_only 12 rfl (by kernel_rfl) rfl (S_callV (args := [_, _]) (lb := [_, _]) (H1 := [_, _, _]) hs rfl rfl Tryz.func38 rfl (by kernel_rfl) (wrp_ok (T := textsF l k) hx (show Ints _ _ [5, 6] from hl92) (i := R) (by omega) (by omega) (by omega) (by decide) (by omega)) fun v22 G' H' _ hR hG93 hs => ?_)
           obtain ⟨rfl, rfl⟩ := hR
           replace hs : St _ _ [_, _, _, _] _ := hs
           replace hx := hx.mono hG93
           replace hT := hT.mono hG93
           replace hl86 := hl86.mono hG93
           replace hl92 := hl92.mono hG93
           refine A_moreS hs hle hG93 (List.Sublist.refl _) ?_
           refine A_take 13 rfl (by kernel_rfl) rfl hs (Y_cat rfl rfl (by first | omega | (simp only [List.length_append, List.length_cons, List.length_nil]; omega)) ?_)
           refine A_take 14 rfl (by kernel_rfl) rfl hs (Y_idxRow (k) Tryz.underlying65 Tryz.sizeOf9 rfl rfl rfl (by omega) ?_)
           have hs := hs.f2
           refine A_tailN 15 rfl (by kernel_rfl) (by kernel_rfl) rfl (S_stRow hs Tryz.sizeOf9 rfl rfl rfl (by omega) fun _ hs => ?_)
           refine A_done (by kernel_rfl) (T_kp [1, 5, 6, 19, 20, 21] rfl ?_)
           refine T_region rfl ?_
           refine O_y hs (Y_add (c := ((k + 1 : Nat) : Int)) rfl rfl (by omega) (by omega) ?_)
           refine O_m rfl ?_
           have hs := hs.f2
           have hs := hs.f2
           have hnt : nodeT l (textsF l k) ⟨kd, [c0, c1, c2, c3], (L : Int), (R : Int), mn, mx⟩ = wrapF l (textsF l k) [5] L ++ [38] ++ wrapF l (textsF l k) [5, 6] R := by unfold nodeT; rw [if_neg (by dsimp only; omega), if_neg (by dsimp only; omega), if_neg (by dsimp only; omega), if_neg (by dsimp only; omega), if_neg (by dsimp only; omega), if_pos (by dsimp only; omega)]; try rfl
           have hrow := row_step (l := l) (k := k) (by omega)
           rw [← hnk, hnt] at hrow
           refine O_nil ⟨_, ?_, [(1, _), (5, _), (6, _), (19, _), (20, _), (21, _)], ⟨rfl, rfl, rfl, rfl, rfl, rfl, trivial⟩, ⟨k + 1, _, by omega, rfl, rfl, by rw [← hrow]; exact hs.weak hs.le (Ghost.le.refl _) (List.sublist_append_left [_, _, _] _)⟩⟩
           omega
         ·
          have hle := hs.le
          refine S_lit hs Tryz.underlying66 Tryz.sizeOf3 Tryz.zeroValue3 rfl rfl (by decide) (by decide) rfl (cs := [_, _]) rfl rfl fun v23 _ hs _ => ?_
          obtain ⟨_, hG92, hl92, hs⟩ := hs.fixRow noM
          replace hx := hx.mono hG92
          replace hT := hT.mono hG92
          refine A_moreS hs hle hG92 (List.Sublist.refl _) ?_
          have hle := hs.le
          refine A_only 5 rfl (by kernel_rfl) rfl (S_lit hs Tryz.underlying66 Tryz.sizeOf3 Tryz.zeroValue3 rfl rfl (by decide) (by decide) rfl (cs := [_]) rfl rfl fun v24 _ hs _ => ?_)
          obtain ⟨_, hG86, hl86, hs⟩ := hs.fixRow noM
          replace hx := hx.mono hG86
          replace hT := hT.mono hG86
          replace hl92 := hl92.mono hG86
          refine A_moreS hs hle hG86 (List.Sublist.refl _) ?_
          have hs := hs.f2
          have hs := hs.f2
          have hs := hs.f2
          have hle := hs.le
          refine A_only 6 rfl (by kernel_rfl) rfl (S_callV (args := [_, _]) (lb := [_, _]) (H1 := [_, _, _]) hs rfl rfl Tryz.func38 rfl (by kernel_rfl) (wrp_ok (T := textsF l k) hx (show Ints _ _ [5] from hl86) (i := L) (by omega) (by omega) (by omega) (by decide) (by omega)) fun v25 G' H' _ hR hG87 hs => ?_)
          obtain ⟨rfl, rfl⟩ := hR
          replace hs : St _ _ [_, _, _, _] _ := hs
          replace hx := hx.mono hG87
          replace hT := hT.mono hG87
          replace hl92 := hl92.mono hG87
          replace hl86 := hl86.mono hG87
          refine A_moreS hs hle hG87 (List.Sublist.refl _) ?_
          refine A_take 7 rfl (by kernel_rfl) rfl hs (Y_cat rfl rfl (by first | omega | (simp only [List.length_append, List.length_cons, List.length_nil]; omega)) ?_)
          have hs := hs.f2
          have hs := hs.f2
          have hs := hs.f2
          have hle := hs.le
          refine A_only 12 rfl (by kernel_rfl) rfl (S_callV (args := [_, _]) (lb := [_, _]) (H1 := [_, _, _]) hs rfl rfl Tryz.func38 rfl (by kernel_rfl) (wrp_ok (T := textsF l k) hx (show Ints _ _ [5, 6] from hl92) (i := R) (by omega) (by omega) (by omega) (by decide) (by omega)) fun v26 G' H' _ hR hG93 hs => ?_)
          obtain ⟨rfl, rfl⟩ := hR
          replace hs : St _ _ [_, _, _, _] _ := hs
          replace hx := hx.mono hG93
          replace hT := hT.mono hG93
          replace hl92 := hl92.mono hG93
          replace hl86 := hl86.mono hG93
          refine A_moreS hs hle hG93 (List.Sublist.refl _) ?_
          refine A_take 13 rfl (by kernel_rfl) rfl hs (Y_cat rfl rfl (by first | omega | (simp only [List.length_append, List.length_cons, List.length_nil]; omega)) ?_)
          refine A_take 14 rfl (by kernel_rfl) rfl hs (Y_idxRow (k) Tryz.underlying65 Tryz.sizeOf9 rfl rfl rfl (by omega) ?_)
          have hs := hs.f2
          refine A_tailN 15 rfl (by kernel_rfl) (by kernel_rfl) rfl (S_stRow hs Tryz.sizeOf9 rfl rfl rfl (by omega) fun _ hs => ?_)
          refine A_done (by kernel_rfl) (T_kp [1, 5, 6, 19, 20, 21] rfl ?_)
          refine T_region rfl ?_
          refine O_y hs (Y_add (c := ((k + 1 : Nat) : Int)) rfl rfl (by omega) (by omega) ?_)
          refine O_m rfl ?_
          have hs := hs.f2
          have hs := hs.f2
          have hnt : nodeT l (textsF l k) ⟨kd, [c0, c1, c2, c3], (L : Int), (R : Int), mn, mx⟩ = wrapF l (textsF l k) [5] L ++ [38] ++ wrapF l (textsF l k) [5, 6] R := by unfold nodeT; rw [if_neg (by dsimp only; omega), if_neg (by dsimp only; omega), if_neg (by dsimp only; omega), if_neg (by dsimp only; omega), if_neg (by dsimp only; omega), if_pos (by dsimp only; omega)]; try rfl
          have hrow := row_step (l := l) (k := k) (by omega)
          rw [← hnk, hnt] at hrow
          refine O_nil ⟨_, ?_, [(1, _), (5, _), (6, _), (19, _), (20, _), (21, _)], ⟨rfl, rfl, rfl, rfl, rfl, rfl, trivial⟩, ⟨k + 1, _, by omega, rfl, rfl, by rw [← hrow]; exact hs.weak hs.le (Ghost.le.refl _) (List.sublist_append_left [_, _, _] _)⟩⟩
          omega
        ·
         dsimp only [cmpP] at h80
         refine O_a rfl ?_
         refine O_nil (T_kp [1, 5, 6, 7, 8, 19, 20, 21, 27, 79] rfl ?_)
         refine T_condF rfl (T_seq (T_region rfl ?_))
         refine O_y hs (Y_cmpS rfl rfl rfl (fun h97 => ?_) (fun h97 => ?_))
         ·
          dsimp only [cmpP] at h97
          refine O_a rfl ?_
          refine O_nil (T_kp [1, 5, 6, 7, 8, 19, 20, 21, 27, 96] rfl ?_)
          have hs := hs.f3
          have hs := hs.f3
          have hs := hs.f3
          have ha := arF_1 (k := kd) (by omega)
          have hl12 := ops_l hop (by dsimp only; omega)
          dsimp only at hl12
          obtain ⟨L, rfl⟩ : ∃ L : Nat, ll = (L : Int) := Int.eq_ofNat_of_zero_le hl12.1
          have hbL : ((textsF l k).getD L []).length ≤ 480000 := hfb.1 (by dsimp only; omega)
          have hw0 := wrap_len l (textsF l k) [4, 5, 6] L
          refine T_condT rfl (T_drawS [0, 1, 2, 3, 4, 5, 6, 7, 8] hs (by kernel_rfl) ?_)
          replace hs := hs.drew
          refine A_take 0 rfl (by kernel_rfl) rfl hs (Y_ld 1 Tryz.isAgg65 rfl rfl rfl ?_)
          refine A_take 1 rfl (by kernel_rfl) rfl hs (Y_move rfl ?_)
          refine A_take 2 rfl (by kernel_rfl) rfl hs (Y_move rfl ?_)
          refine A_take 3 rfl (by kernel_rfl) rfl hs (Y_fieldAddr FO42_2 rfl (m := 5) rfl ?_)
          refine A_take 4 rfl (by kernel_rfl) rfl hs (Y_ld 3 Tryz.isAgg3 rfl rfl rfl ?_)
          have hle := hs.le
          refine A_only 5 rfl (by kernel_rfl) rfl (S_lit hs Tryz.underlying66 Tryz.sizeOf3 Tryz.zeroValue3 rfl rfl (by decide) (by decide) rfl (cs := [_, _, _]) rfl rfl fun v27 _ hs _ => ?_)
          obtain ⟨_, hG103, hl103, hs⟩ := hs.fixRow noM
          replace hx := hx.mono hG103
          replace hT := hT.mono hG103
          refine A_moreS hs hle hG103 (List.Sublist.refl _) ?_
          have hs := hs.f2
          have hs := hs.f2
          have hs := hs.f2
          have hle := hs.le
          refine A_only 6 rfl (by kernel_rfl) rfl (S_callV (args := [_, _]) (lb := [_, _]) (H1 := [_, _, _]) hs rfl rfl Tryz.func38 rfl (by kernel_rfl) (wrp_ok (T := textsF l k) hx (show Ints _ _ [4, 5, 6] from hl103) (i := L) (by omega) (by omega) (by omega) (by decide) (by omega)) fun v28 G' H' _ hR hG104 hs => ?_)
          obtain ⟨rfl, rfl⟩ := hR
          replace hs : St _ _ [_, _, _, _] _ := hs
          replace hx := hx.mono hG104
          replace hT := hT.mono hG104
          replace hl103 := hl103.mono hG104
          refine A_moreS hs hle hG104 (List.Sublist.refl _) ?_
          refine A_take 7 rfl (by kernel_rfl) rfl hs (Y_cat rfl rfl (by first | omega | (simp only [List.length_append, List.length_cons, List.length_nil]; omega)) ?_)
          refine A_take 8 rfl (by kernel_rfl) rfl hs (Y_idxRow (k) Tryz.underlying65 Tryz.sizeOf9 rfl rfl rfl (by omega) ?_)
          have hs := hs.f2
          refine A_tailN 9 rfl (by kernel_rfl) (by kernel_rfl) rfl (S_stRow hs Tryz.sizeOf9 rfl rfl rfl (by omega) fun _ hs => ?_)
          refine A_done (by kernel_rfl) (T_kp [1, 5, 6, 19, 20, 21] rfl ?_)
          refine T_region rfl ?_
          refine O_y hs (Y_add (c := ((k + 1 : Nat) : Int)) rfl rfl (by omega) (by omega) ?_)
          refine O_m rfl ?_
          have hs := hs.f2
          have hs := hs.f2
          have hnt : nodeT l (textsF l k) ⟨kd, [c0, c1, c2, c3], (L : Int), rr, mn, mx⟩ = [126] ++ wrapF l (textsF l k) [4, 5, 6] L := by unfold nodeT; rw [if_neg (by dsimp only; omega), if_neg (by dsimp only; omega), if_neg (by dsimp only; omega), if_neg (by dsimp only; omega), if_neg (by dsimp only; omega), if_neg (by dsimp only; omega), if_pos (by dsimp only; omega)]; try rfl
          have hrow := row_step (l := l) (k := k) (by omega)
          rw [← hnk, hnt] at hrow
          refine O_nil ⟨_, ?_, [(1, _), (5, _), (6, _), (19, _), (20, _), (21, _)], ⟨rfl, rfl, rfl, rfl, rfl, rfl, trivial⟩, ⟨k + 1, _, by omega, rfl, rfl, by rw [← hrow]; exact hs.weak hs.le (Ghost.le.refl _) (List.sublist_append_left [_, _, _] _)⟩⟩
          omega
         ·
          dsimp only [cmpP] at h97
          refine O_a rfl ?_
          refine O_nil (T_kp [1, 5, 6, 7, 8, 19, 20, 21, 27, 96] rfl ?_)
          refine T_condF rfl (T_seq (T_region rfl ?_))
          refine O_y hs (Y_cmpT rfl rfl rfl (by omega) ?_)
          refine O_a rfl ?_
          refine O_nil (T_kp [1, 5, 6, 7, 8, 19, 20, 21, 107] rfl ?_)
          have hs := hs.f3
          have hs := hs.f3
          have hs := hs.f3
          have ha := arF_1 (k := kd) (by omega)
          have hrg := rep_rng hne (by dsimp only; omega)
          dsimp only at hrg
          have hl12 := ops_l hop (by dsimp only; omega)
          dsimp only at hl12
          obtain ⟨L, rfl⟩ : ∃ L : Nat, ll = (L : Int) := Int.eq_ofNat_of_zero_le hl12.1
          have hbL : ((textsF l k).getD L []).length ≤ 480000 := hfb.1 (by dsimp only; omega)
          have hw0 := wrap_len l (textsF l k) [4, 5, 6, 7] L
          refine T_condT rfl (T_drawS [0, 1, 2, 3, 4, 5, 6, 7, 8, 9, 10, 11, 12, 13] hs (by kernel_rfl) ?_)
          replace hs := hs.drew
          refine A_take 0 rfl (by kernel_rfl) rfl hs (Y_ld 1 Tryz.isAgg65 rfl rfl rfl ?_)
          refine A_take 1 rfl (by kernel_rfl) rfl hs (Y_move rfl ?_)
          refine A_take 2 rfl (by kernel_rfl) rfl hs (Y_move rfl ?_)
          refine A_take 3 rfl (by kernel_rfl) rfl hs (Y_fieldAddr FO42_2 rfl (m := 5) rfl ?_)
          refine A_take 4 rfl (by kernel_rfl) rfl hs (Y_ld 3 Tryz.isAgg3 rfl rfl rfl ?_)
          refine A_take 7 rfl (by kernel_rfl) rfl hs (Y_fieldAddr FO42_4 rfl (m := 7) rfl ?_)
          refine A_take 8 rfl (by kernel_rfl) rfl hs (Y_ld 3 Tryz.isAgg3 rfl rfl rfl ?_)
          refine A_take 9 rfl (by kernel_rfl) rfl hs (Y_fieldAddr FO42_5 rfl (m := 8) rfl ?_)
          refine A_take 10 rfl (by kernel_rfl) rfl hs (Y_ld 3 Tryz.isAgg3 rfl rfl rfl ?_)
          have hle := hs.le
          refine A_only 5 rfl (by kernel_rfl) rfl (S_lit hs Tryz.underlying66 Tryz.sizeOf3 Tryz.zeroValue3 rfl rfl (by decide) (by decide) rfl (cs := [_, _, _, _]) rfl rfl fun v29 _ hs _ => ?_)
          obtain ⟨_, hG114, hl114, hs⟩ := hs.fixRow noM
          replace hx := hx.mono hG114
          replace hT := hT.mono hG114
          refine A_moreS hs hle hG114 (List.Sublist.refl _) ?_
          have hs := hs.f2
          have hs := hs.f2
          have hs := hs.f2
          have hle := hs.le
          refine A_only 6 rfl (by kernel_rfl) rfl (S_callV (args := [_, _]) (lb := [_, _]) (H1 := [_, _, _]) hs rfl rfl Tryz.func38 rfl (by kernel_rfl) (wrp_ok (T := textsF l k) hx (show Ints _ _ [4, 5, 6, 7] from hl114) (i := L) (by omega) (by omega) (by omega) (by decide) (by omega)) fun v30 G' H' _ hR hG115 hs => ?_)
          obtain ⟨rfl, rfl⟩ := hR
          replace hs : St _ _ [_, _, _, _] _ := hs
          replace hx := hx.mono hG115
          replace hT := hT.mono hG115
          replace hl114 := hl114.mono hG115
          refine A_moreS hs hle hG115 (List.Sublist.refl _) ?_
          have hle := hs.le
          refine A_only 11 rfl (by kernel_rfl) rfl (S_call (H1 := []) hs rfl Tryz.func40 rfl (by kernel_rfl) (btxt_ok (mn := mn) (mx := mx) hrg.1 hrg.2.1 hrg.2.2.1 hrg.2.2.2) fun v31 G' H' _ hR hG120 hs => ?_)
          obtain ⟨rfl, rfl⟩ := hR
          replace hs : St _ _ [_, _, _, _] _ := hs
          replace hx := hx.mono hG120
          replace hT := hT.mono hG120
          replace hl114 := hl114.mono hG120
          refine A_moreS hs hle hG120 (List.Sublist.refl _) ?_
          refine A_take 12 rfl (by kernel_rfl) rfl hs (Y_cat rfl rfl (by have hq := sufT_len mn mx; omega) ?_)
          refine A_take 13 rfl (by kernel_rfl) rfl hs (Y_idxRow (k) Tryz.underlying65 Tryz.sizeOf9 rfl rfl rfl (by omega) ?_)
          have hs := hs.f2
          refine A_tailN 14 rfl (by kernel_rfl) (by kernel_rfl) rfl (S_stRow hs Tryz.sizeOf9 rfl rfl rfl (by omega) fun _ hs => ?_)
          refine A_done (by kernel_rfl) (T_kp [1, 5, 6, 19, 20, 21] rfl ?_)
          refine T_region rfl ?_
          refine O_y hs (Y_add (c := ((k + 1 : Nat) : Int)) rfl rfl (by omega) (by omega) ?_)
          refine O_m rfl ?_
          have hs := hs.f2
          have hs := hs.f2
          have hnt : nodeT l (textsF l k) ⟨kd, [c0, c1, c2, c3], (L : Int), rr, mn, mx⟩ = wrapF l (textsF l k) [4, 5, 6, 7] L ++ sufT mn mx := by unfold nodeT; rw [if_neg (by dsimp only; omega), if_neg (by dsimp only; omega), if_neg (by dsimp only; omega), if_neg (by dsimp only; omega), if_neg (by dsimp only; omega), if_neg (by dsimp only; omega), if_neg (by dsimp only; omega)]; try rfl
          have hrow := row_step (l := l) (k := k) (by omega)
          rw [← hnk, hnt] at hrow
          refine O_nil ⟨_, ?_, [(1, _), (5, _), (6, _), (19, _), (20, _), (21, _)], ⟨rfl, rfl, rfl, rfl, rfl, rfl, trivial⟩, ⟨k + 1, _, by omega, rfl, rfl, by rw [← hrow]; exact hs.weak hs.le (Ghost.le.refl _) (List.sublist_append_left [_, _, _] _)⟩⟩
          omega
  ·
   dsimp only [cmpP] at h22
   refine O_nil (T_kp [1, 5, 6, 19, 20, 21, 22] rfl ?_)
   refine T_seq (T_condF rfl (T_exit ?_))
   obtain rfl : k = l.length := by omega
   have htl := textsF_len l l.length (Nat.le_refl _)
   have hsz := bsz ((textsF l l.length).getD (l.length - 1) [])
   refine T_seq (T_region rfl ?_)
   refine O_y hs (Y_ld 1 Tryz.isAgg65 rfl rfl rfl ?_)
   refine O_y hs (Y_ld 0 Tryz.isAgg24 rfl rfl rfl ?_)
   refine O_y hs (Y_len Tryz.underlying24 rfl ?_)
   refine O_y hs (Y_sub (c := ((l.length - 1 : Nat) : Int)) rfl rfl (by omega) (by omega) ?_)
   refine O_y hs (Y_idxRow ((l.length - 1)) Tryz.underlying65 Tryz.sizeOf9 rfl rfl rfl (by omega) ?_)
   refine O_y hs (Y_ldRow 2 rfl Tryz.isAgg9 rfl (by rw [List.getElem?_map, padT_at (by omega)]; rfl) ?_)
   refine O_a rfl ?_
   refine O_nil (T_kp [9] rfl ?_)
   refine T_seq (T_seq (T_region rfl ?_))
   refine O_m rfl ?_
   refine O_y hs (Y_lenS Tryz.underlying9 rfl ?_)
   refine O_y hs (Y_cmpS rfl rfl rfl (fun h132 => ?_) (fun h132 => ?_))
   ·
    dsimp only [cmpP] at h132
    refine O_nil (T_kp [9, 132] rfl ?_)
    refine T_condT rfl (T_seq (T_region rfl ?_))
    refine O_a rfl ?_
    refine O_a rfl ?_
    refine O_nil (T_kp [2, 3] rfl ?_)
    refine T_ret ?_
    refine Rt_fin (vs := [_, _]) Tryz.results17 rfl ⟨rfl, rfl, trivial⟩ ?_
    try dsimp only [tup]
    exact ⟨_, [], hs.done, rfl, by unfold formatF; rw [if_pos hv0, if_pos (by omega)]; try rfl⟩
   ·
    dsimp only [cmpP] at h132
    refine O_nil (T_kp [9, 132] rfl ?_)
    refine T_condF rfl (T_skip ?_)
    refine T_seq (T_region rfl ?_)
    refine O_m rfl ?_
    refine O_a rfl ?_
    refine O_a rfl ?_
    refine O_nil (T_kp [2, 3] rfl ?_)
    refine T_ret ?_
    refine Rt_fin (vs := [_, _]) Tryz.results17 rfl ⟨rfl, rfl, trivial⟩ ?_
    try dsimp only [tup]
    exact ⟨_, [], hs.done, rfl, by unfold formatF; rw [if_pos hv0, if_neg (by omega)]; try rfl⟩

end Go.Proofs.YtkmgbcjfidpmgaaGreatDoor
