import Derived.Test.YtkmgbcjfidpmgaaGreatDoorExWalks2
import Derived.Test.YtkmgbcjfidpmgaaGreatDoorProg
import Derived.Test.YtkmgbcjfidpmgaaGreatDoorSame
import Derived.Test.YtkmgbcjfidpmgaaGreatDoorExThin
import Derived.Test.YtkmgbcjfidpmgaaGreatDoorShelf
namespace Go.Proofs.YtkmgbcjfidpmgaaGreatDoor
open Go Go.Ex Go.RowKit
theorem FO42_0 : fieldOff Tryz.prog 42 0 = some 0 := by kernel_rfl
theorem FO42_1 : fieldOff Tryz.prog 42 1 = some 1 := by kernel_rfl
theorem FO42_2 : fieldOff Tryz.prog 42 2 = some 5 := by kernel_rfl
theorem FO42_3 : fieldOff Tryz.prog 42 3 = some 6 := by kernel_rfl
theorem TI3 : TI Tryz.prog 3 (.int .i64 0) 1 8 := TI.of (by kernel_rfl)

set_option maxHeartbeats 400000 in
set_option maxRecDepth 10000 in
theorem ari_ok {G : Ghost} {k : Int} :
  FnOk Tryz.prog 45 [.int .i64 k] G [] fun r _ H' => H' = [] ∧ r = .int .i64 ((arF k : Nat) : Int) := by
 refine FnOk.of_T [(0, _)] Tryz.func45 rfl Tryz.ntmps45 (by simp) rfl fun w0 hs => ?_
 refine T_seq (T_region rfl ?_)
 refine O_a rfl ?_
 refine O_nil (T_kp [0] rfl ?_)
 refine T_seq (T_seq (T_region rfl ?_))
 refine O_m rfl ?_
 refine O_nil (T_kp [3] rfl ?_)
 refine T_block (T_seq (T_seq (T_region rfl ?_)))
 refine O_y hs (Y_cmpS rfl rfl rfl (fun h5 => ?_) (fun h5 => ?_))
 ·
  dsimp only [cmpP] at h5
  refine O_a rfl ?_
  refine O_nil (T_kp [3, 4] rfl ?_)
  refine T_condT rfl (T_skip ?_)
  refine T_condT rfl (T_seq (T_region rfl ?_))
  refine O_a rfl ?_
  refine O_nil (T_kp [2] rfl ?_)
  refine T_ret ?_
  refine Rt_fin (vs := [_]) Tryz.results45 rfl ⟨rfl, trivial⟩ ?_
  try dsimp only [tup]
  exact ⟨_, [], hs.done, rfl, by rw [arF_2 (by omega)]; rfl⟩
 ·
  dsimp only [cmpP] at h5
  refine O_a rfl ?_
  refine O_nil (T_kp [3, 4] rfl ?_)
  refine T_condF rfl (T_seq (T_region rfl ?_))
  refine O_y hs (Y_cmpS rfl rfl rfl (fun h6 => ?_) (fun h6 => ?_))
  ·
   dsimp only [cmpP] at h6
   refine O_a rfl ?_
   refine O_nil (T_kp [3, 4] rfl ?_)
   refine T_condT rfl (T_skip ?_)
   refine T_condT rfl (T_seq (T_region rfl ?_))
   refine O_a rfl ?_
   refine O_nil (T_kp [2] rfl ?_)
   refine T_ret ?_
   refine Rt_fin (vs := [_]) Tryz.results45 rfl ⟨rfl, trivial⟩ ?_
   try dsimp only [tup]
   exact ⟨_, [], hs.done, rfl, by rw [arF_2 (by omega)]; rfl⟩
  ·
   dsimp only [cmpP] at h6
   refine O_a rfl ?_
   refine O_nil (T_kp [3, 4] rfl ?_)
   refine T_condF rfl (T_region rfl ?_)
   refine O_y hs (Y_cmpS rfl rfl rfl (fun h7 => ?_) (fun h7 => ?_))
   ·
    dsimp only [cmpP] at h7
    refine O_a rfl ?_
    refine O_nil (T_kp [3, 4] rfl ?_)
    refine T_condT rfl (T_seq (T_region rfl ?_))
    refine O_a rfl ?_
    refine O_nil (T_kp [2] rfl ?_)
    refine T_ret ?_
    refine Rt_fin (vs := [_]) Tryz.results45 rfl ⟨rfl, trivial⟩ ?_
    try dsimp only [tup]
    exact ⟨_, [], hs.done, rfl, by rw [arF_2 (by omega)]; rfl⟩
   ·
    dsimp only [cmpP] at h7
    refine O_a rfl ?_
    refine O_nil (T_kp [3, 4] rfl ?_)
    refine T_condF rfl (T_seq (T_seq (T_region rfl ?_)))
    refine O_y hs (Y_cmpS rfl rfl rfl (fun h9 => ?_) (fun h9 => ?_))
    ·
     dsimp only [cmpP] at h9
     refine O_a rfl ?_
     refine O_nil (T_kp [3, 8] rfl ?_)
     refine T_condT rfl (T_skip ?_)
     refine T_condT rfl (T_seq (T_region rfl ?_))
     refine O_a rfl ?_
     refine O_nil (T_kp [2] rfl ?_)
     refine T_ret ?_
     refine Rt_fin (vs := [_]) Tryz.results45 rfl ⟨rfl, trivial⟩ ?_
     try dsimp only [tup]
     exact ⟨_, [], hs.done, rfl, by rw [arF_1 (by omega)]; rfl⟩
    ·
     dsimp only [cmpP] at h9
     refine O_a rfl ?_
     refine O_nil (T_kp [3, 8] rfl ?_)
     refine T_condF rfl (T_region rfl ?_)
     refine O_y hs (Y_cmpS rfl rfl rfl (fun h10 => ?_) (fun h10 => ?_))
     ·
      dsimp only [cmpP] at h10
      refine O_a rfl ?_
      refine O_nil (T_kp [8] rfl ?_)
      refine T_condT rfl (T_seq (T_region rfl ?_))
      refine O_a rfl ?_
      refine O_nil (T_kp [2] rfl ?_)
      refine T_ret ?_
      refine Rt_fin (vs := [_]) Tryz.results45 rfl ⟨rfl, trivial⟩ ?_
      try dsimp only [tup]
      exact ⟨_, [], hs.done, rfl, by rw [arF_1 (by omega)]; rfl⟩
     ·
      dsimp only [cmpP] at h10
      refine O_a rfl ?_
      refine O_nil (T_kp [8] rfl ?_)
      refine T_condF rfl (T_skip ?_)
      refine T_seq (T_region rfl ?_)
      refine O_a rfl ?_
      refine O_nil (T_kp [2] rfl ?_)
      refine T_ret ?_
      refine Rt_fin (vs := [_]) Tryz.results45 rfl ⟨rfl, trivial⟩ ?_
      try dsimp only [tup]
      exact ⟨_, [], hs.done, rfl, by rw [arF_0 (by omega) (by omega)]; rfl⟩

set_option maxHeartbeats 400000 in
set_option maxRecDepth 10000 in
theorem in_ok {G : Ghost} {x : Int} {i p : Nat} :
  FnOk Tryz.prog 66 [.int .i64 x, .pointer (some ⟨p, 0, none⟩)] G [.blk p 3 [.int .i64 (i : Int)]] fun r _ H' => H' = [.blk p 3 [.int .i64 (i : Int)]] ∧ r = .bool (decide (0 ≤ x ∧ x < (i : Int))) := by
 refine FnOk.of_T [(0, _), (1, _)] Tryz.func66 rfl Tryz.ntmps66 (by simp) rfl fun w0 hs => ?_
 refine T_seq (T_region rfl ?_)
 refine O_a rfl ?_
 refine O_nil (T_kp [0, 1] rfl ?_)
 refine T_seq (T_region rfl ?_)
 refine O_m rfl ?_
 refine O_y hs (Y_cmpS rfl rfl rfl (fun h5 => ?_) (fun h5 => ?_))
 ·
  dsimp only [cmpP] at h5
  refine O_m rfl ?_
  refine O_yy 6 hs rfl rfl (Y_move rfl ?_)
  refine O_yy 6 hs rfl rfl (Y_ld 0 Tryz.isAgg3 rfl rfl rfl ?_)
  refine O_yy 6 hs rfl rfl (Y_cmpS rfl rfl rfl (fun h9 => ?_) (fun h9 => ?_))
  ·
   dsimp only [cmpP] at h9
   refine O_y hs (Y_pickT rfl rfl ?_)
   refine O_a rfl ?_
   refine O_nil (T_kp [3] rfl ?_)
   refine T_ret ?_
   refine Rt_fin (vs := [_]) Tryz.results66 rfl ⟨rfl, trivial⟩ ?_
   try dsimp only [tup]
   exact ⟨_, _, hs, rfl, congrArg Value.bool (decide_eq_true (by omega)).symm⟩
  ·
   dsimp only [cmpP] at h9
   refine O_y hs (Y_pickT rfl rfl ?_)
   refine O_a rfl ?_
   refine O_nil (T_kp [3] rfl ?_)
   refine T_ret ?_
   refine Rt_fin (vs := [_]) Tryz.results66 rfl ⟨rfl, trivial⟩ ?_
   try dsimp only [tup]
   exact ⟨_, _, hs, rfl, congrArg Value.bool (decide_eq_false (by omega)).symm⟩
 ·
  dsimp only [cmpP] at h5
  refine O_m rfl ?_
  refine O_no 6 rfl rfl ?_
  refine O_no 6 rfl rfl ?_
  refine O_no 6 rfl rfl ?_
  refine O_y hs (Y_pickF rfl rfl ?_)
  refine O_a rfl ?_
  refine O_nil (T_kp [3] rfl ?_)
  refine T_ret ?_
  refine Rt_fin (vs := [_]) Tryz.results66 rfl ⟨rfl, trivial⟩ ?_
  try dsimp only [tup]
  exact ⟨_, _, hs, rfl, congrArg Value.bool (decide_eq_false (by omega)).symm⟩

theorem ops_b5 {n : NodeV} {i : Int} (h : 0 < arF n.kind ∧ ¬ (0 ≤ n.l ∧ n.l < i)) : ¬ opsOk n i := fun ho => h.2 (ops_l ho h.1)
theorem ops_b6 {n : NodeV} {i : Int} (h : arF n.kind = 0 ∧ n.l ≠ 0) : ¬ opsOk n i := fun ho => by have h1 := ho.1; rw [if_neg (by omega)] at h1; exact h.2 h1
theorem ops_b7 {n : NodeV} {i : Int} (h : 1 < arF n.kind ∧ ¬ (0 ≤ n.r ∧ n.r < i)) : ¬ opsOk n i := fun ho => h.2 (ops_r ho h.1)
theorem ops_b8 {n : NodeV} {i : Int} (h : arF n.kind < 2 ∧ n.r ≠ 0) : ¬ opsOk n i := fun ho => by have h1 := ho.2; rw [if_neg (by omega)] at h1; exact h.2 h1
theorem not_of {b : Bool} {P : Prop} (h : b = true ↔ P) (hb : b = false) : ¬ P := fun p => by rw [h.2 p] at hb; cases hb
theorem ops_all {n : NodeV} {i : Int} (h5 : ¬ (0 < arF n.kind ∧ ¬ (0 ≤ n.l ∧ n.l < i))) (h6 : ¬ (arF n.kind = 0 ∧ n.l ≠ 0)) (h7 : ¬ (1 < arF n.kind ∧ ¬ (0 ≤ n.r ∧ n.r < i))) (h8 : ¬ (arF n.kind < 2 ∧ n.r ≠ 0)) : opsOk n i := by
  refine ⟨?_, ?_⟩
  · by_cases h : 0 < arF n.kind
    · rw [if_pos h]; exact Classical.not_not.1 fun h' => h5 ⟨h, h'⟩
    · rw [if_neg h]; exact Classical.not_not.1 fun h' => h6 ⟨by omega, h'⟩
  · by_cases h : 1 < arF n.kind
    · rw [if_pos h]; exact Classical.not_not.1 fun h' => h7 ⟨h, h'⟩
    · rw [if_neg h]; exact Classical.not_not.1 fun h' => h8 ⟨by omega, h'⟩


set_option maxHeartbeats 2000000 in
set_option maxRecDepth 10000 in
theorem chk_ok {G : Ghost} {n : NodeV} {i : Nat} (hc : ClsOk n.c) :
  FnOk Tryz.prog 44 [.agg (nodeC n).toArray, .int .i64 (i : Int)] G [] fun r _ H' => H' = [] ∧ r = .int .i64 (nodeE n i) := by
 obtain ⟨kd, c, ll, rr, mn, mx⟩ := n
 obtain ⟨c0, c1, c2, c3, rfl⟩ := four_of hc.1
 show FnOk Tryz.prog 44 [.agg #[.int .i64 kd, u64V c0, u64V c1, u64V c2, u64V c3, .int .i64 ll, .int .i64 rr, .int .i64 mn, .int .i64 mx], .int .i64 (i : Int)] G [] _
 refine FnOk.of_T [(0, _), (1, _)] Tryz.func44 rfl Tryz.ntmps44 (by simp) rfl fun w0 hs => ?_
 refine T_seq (T_region rfl ?_)
 refine O_s (S_box hs rfl (cs := [_, _, _, _, _, _, _, _, _]) rfl fun b2 _ hs => ?_)
 refine O_s (S_box hs rfl (cs := [_]) rfl fun b3 _ hs => ?_)
 refine O_a rfl ?_
 refine O_nil (T_kp [2, 3] rfl ?_)
 refine T_seq (T_seq (T_region rfl ?_))
 refine O_y hs (Y_fieldAddr FO42_0 rfl (m := 0) rfl ?_)
 refine O_y hs (Y_ld 1 Tryz.isAgg3 rfl rfl rfl ?_)
 refine O_y hs (Y_cmpS rfl rfl rfl (fun h9 => ?_) (fun h9 => ?_))
 ·
  dsimp only [cmpP] at h9
  refine O_m rfl ?_
  refine O_no 10 rfl rfl ?_
  refine O_no 10 rfl rfl ?_
  refine O_no 10 rfl rfl ?_
  refine O_y hs (Y_pickT rfl rfl ?_)
  refine O_nil (T_kp [2, 3, 14] rfl ?_)
  refine T_condT rfl (T_seq (T_region rfl ?_))
  refine O_a rfl ?_
  refine O_nil (T_kp [4] rfl ?_)
  refine T_ret ?_
  refine Rt_fin (vs := [_]) Tryz.results44 rfl ⟨rfl, trivial⟩ ?_
  try dsimp only [tup]
  unfold nodeE; rw [if_pos (by dsimp only; omega)]
  exact ⟨_, [], hs.done, rfl, rfl⟩
 ·
  dsimp only [cmpP] at h9
  refine O_m rfl ?_
  refine O_yy 10 hs rfl rfl (Y_fieldAddr FO42_0 rfl (m := 0) rfl ?_)
  refine O_yy 10 hs rfl rfl (Y_ld 1 Tryz.isAgg3 rfl rfl rfl ?_)
  refine O_yy 10 hs rfl rfl (Y_cmpS rfl rfl rfl (fun h13 => ?_) (fun h13 => ?_))
  ·
   dsimp only [cmpP] at h13
   refine O_y hs (Y_pickF rfl rfl ?_)
   refine O_nil (T_kp [2, 3, 14] rfl ?_)
   refine T_condT rfl (T_seq (T_region rfl ?_))
   refine O_a rfl ?_
   refine O_nil (T_kp [4] rfl ?_)
   refine T_ret ?_
   refine Rt_fin (vs := [_]) Tryz.results44 rfl ⟨rfl, trivial⟩ ?_
   try dsimp only [tup]
   unfold nodeE; rw [if_pos (by dsimp only; omega)]
   exact ⟨_, [], hs.done, rfl, rfl⟩
  ·
   dsimp only [cmpP] at h13
   refine O_y hs (Y_pickF rfl rfl ?_)
   refine O_nil (T_kp [2, 3, 14] rfl ?_)
   refine T_condF rfl (T_skip ?_)
   refine T_seq (T_region rfl ?_)
   refine O_y hs (Y_makeFunc (vs := [_]) rfl ?_)
   refine O_a rfl ?_
   refine O_nil (T_kp [2, 5] rfl ?_)
   refine T_seq (T_region rfl ?_)
   refine O_y hs (Y_fieldAddr FO42_0 rfl (m := 0) rfl ?_)
   refine O_y hs (Y_ld 1 Tryz.isAgg3 rfl rfl rfl ?_)
   refine O_s (S_call (H1 := []) hs rfl Tryz.func45 rfl (by kernel_rfl) (ari_ok) fun v1 G' H' _ hR hG18 hs => ?_)
   obtain ⟨rfl, rfl⟩ := hR
   replace hs : St _ _ [_, _] _ := hs
   refine O_a rfl ?_
   refine O_nil (T_kp [2, 5, 6] rfl ?_)
   refine T_seq (T_block (T_seq (T_seqJ (fun E w => ∃ (b5 : Bool) (G' : Ghost), (b5 = true ↔ (0 < arF kd ∧ ¬ (0 ≤ ll ∧ ll < (i : Int)))) ∧ E = ⟨[], [(2, .pointer (some ⟨b2, 0, none⟩)), (5, .func (.func 66) #[] #[.pointer (some ⟨b3, 0, none⟩)]), (6, .int .i64 ((arF kd : Nat) : Int)), (19, .bool b5)]⟩ ∧ St ⟨w0, G, feet []⟩ G' [.blk b2 42 [.int .i64 kd, u64V c0, u64V c1, u64V c2, u64V c3, .int .i64 ll, .int .i64 rr, .int .i64 mn, .int .i64 mx], .blk b3 3 [.int .i64 (i : Int)]] w) ?_ ?_)))
   ·
    refine T_region rfl ?_
    refine O_m rfl ?_
    refine O_y hs (Y_cmpS rfl rfl rfl (fun h21 => ?_) (fun h21 => ?_))
    ·
     dsimp only [cmpP] at h21
     refine O_m rfl ?_
     refine O_yy 22 hs rfl rfl (Y_move rfl ?_)
     refine O_yy 22 hs rfl rfl (Y_fieldAddr FO42_2 rfl (m := 5) rfl ?_)
     refine O_yy 22 hs rfl rfl (Y_ld 1 Tryz.isAgg3 rfl rfl rfl ?_)
     refine O_yes 22 rfl rfl (S_callV (args := [_]) (lb := [_]) (H1 := [_]) hs rfl rfl Tryz.func66 rfl (by kernel_rfl) (in_ok (x := ll)) fun v2 G' H' _ hR hG26 hs => ?_)
     obtain ⟨rfl, rfl⟩ := hR
     replace hs : St _ _ [_, _] _ := hs
     cases h26 : decide (0 ≤ ll ∧ ll < (i : Int))
     ·
      refine O_yy 22 hs rfl rfl (Y_not rfl ?_)
      refine O_y hs (Y_pickT rfl rfl ?_)
      refine O_a rfl ?_
      have hs := hs.f1
      exact O_nil (⟨[(2, _), (5, _), (6, _), (19, _)], ⟨rfl, rfl, rfl, rfl, trivial⟩, ⟨_, _, ⟨fun _ => ⟨by omega, of_decide_eq_false h26⟩, fun _ => rfl⟩, rfl, hs⟩⟩)
     ·
      refine O_yy 22 hs rfl rfl (Y_not rfl ?_)
      refine O_y hs (Y_pickT rfl rfl ?_)
      refine O_a rfl ?_
      have hs := hs.f1
      exact O_nil (⟨[(2, _), (5, _), (6, _), (19, _)], ⟨rfl, rfl, rfl, rfl, trivial⟩, ⟨_, _, ⟨fun h => (by cases h), fun h => absurd (of_decide_eq_true h26) h.2⟩, rfl, hs⟩⟩)
    ·
     dsimp only [cmpP] at h21
     refine O_m rfl ?_
     refine O_no 22 rfl rfl ?_
     refine O_no 22 rfl rfl ?_
     refine O_no 22 rfl rfl ?_
     refine O_no 22 rfl rfl ?_
     refine O_no 22 rfl rfl ?_
     refine O_y hs (Y_pickF rfl rfl ?_)
     refine O_a rfl ?_
     have hs := hs.f1
     exact O_nil (⟨[(2, _), (5, _), (6, _), (19, _)], ⟨rfl, rfl, rfl, rfl, trivial⟩, ⟨_, _, ⟨fun h => (by cases h), fun h => absurd h.1 (by omega)⟩, rfl, hs⟩⟩)
   clear hs
   intro E w hI
   obtain ⟨b5, G', hb5, rfl, hs⟩ := hI
   refine T_joinK (fun E w => ∃ (bj : Bool) (G' : Ghost), (bj = true ↔ ¬ opsOk ⟨kd, [c0, c1, c2, c3], ll, rr, mn, mx⟩ (i : Int)) ∧ E = ⟨[], [(2, .pointer (some ⟨b2, 0, none⟩)), (19, .bool bj)]⟩ ∧ St ⟨w0, G, feet []⟩ G' [.blk b2 42 [.int .i64 kd, u64V c0, u64V c1, u64V c2, u64V c3, .int .i64 ll, .int .i64 rr, .int .i64 mn, .int .i64 mx], .blk b3 3 [.int .i64 (i : Int)]] w) ?_ ?_
   ·
    refine T_condS rfl (fun hif => ?_) (fun hif => ?_)
    ·
     refine T_skip ?_
     have hs := hs.f1
     have hs := hs.f1
     exact ⟨[(2, _), (19, _)], ⟨rfl, rfl, trivial⟩, ⟨_, _, ⟨fun _ => by first | exact ops_b7 (hb7.1 hif) | exact ops_b6 (hb6.1 hif) | exact ops_b5 (hb5.1 hif), fun _ => hif⟩, rfl, hs⟩⟩
    ·
     have hn5 := hif
     refine T_seqJ (fun E w => ∃ (b6 : Bool) (G' : Ghost), (b6 = true ↔ (arF kd = 0 ∧ ll ≠ 0)) ∧ E = ⟨[], [(2, .pointer (some ⟨b2, 0, none⟩)), (5, .func (.func 66) #[] #[.pointer (some ⟨b3, 0, none⟩)]), (6, .int .i64 ((arF kd : Nat) : Int)), (19, .bool b6)]⟩ ∧ St ⟨w0, G, feet []⟩ G' [.blk b2 42 [.int .i64 kd, u64V c0, u64V c1, u64V c2, u64V c3, .int .i64 ll, .int .i64 rr, .int .i64 mn, .int .i64 mx], .blk b3 3 [.int .i64 (i : Int)]] w) ?_ ?_
     ·
      refine T_region rfl ?_
      refine O_m rfl ?_
      refine O_y hs (Y_cmpS rfl rfl rfl (fun h30 => ?_) (fun h30 => ?_))
      ·
       dsimp only [cmpP] at h30
       refine O_m rfl ?_
       refine O_yy 31 hs rfl rfl (Y_fieldAddr FO42_2 rfl (m := 5) rfl ?_)
       refine O_yy 31 hs rfl rfl (Y_ld 0 Tryz.isAgg3 rfl rfl rfl ?_)
       refine O_yy 31 hs rfl rfl (Y_cmpS rfl rfl rfl (fun h34 => ?_) (fun h34 => ?_))
       ·
        dsimp only [cmpP] at h34
        refine O_y hs (Y_pickT rfl rfl ?_)
        refine O_a rfl ?_
        have hs := hs.f1
        have hs := hs.f1
        exact O_nil (⟨[(2, _), (5, _), (6, _), (19, _)], ⟨rfl, rfl, rfl, rfl, trivial⟩, ⟨_, _, ⟨fun _ => ⟨by omega, by omega⟩, fun _ => rfl⟩, rfl, hs⟩⟩)
       ·
        dsimp only [cmpP] at h34
        refine O_y hs (Y_pickT rfl rfl ?_)
        refine O_a rfl ?_
        have hs := hs.f1
        have hs := hs.f1
        exact O_nil (⟨[(2, _), (5, _), (6, _), (19, _)], ⟨rfl, rfl, rfl, rfl, trivial⟩, ⟨_, _, ⟨fun h => (by cases h), fun h => absurd h.2 (by omega)⟩, rfl, hs⟩⟩)
      ·
       dsimp only [cmpP] at h30
       refine O_m rfl ?_
       refine O_no 31 rfl rfl ?_
       refine O_no 31 rfl rfl ?_
       refine O_no 31 rfl rfl ?_
       refine O_y hs (Y_pickF rfl rfl ?_)
       refine O_a rfl ?_
       have hs := hs.f1
       have hs := hs.f1
       exact O_nil (⟨[(2, _), (5, _), (6, _), (19, _)], ⟨rfl, rfl, rfl, rfl, trivial⟩, ⟨_, _, ⟨fun h => (by cases h), fun h => absurd h.1 (by omega)⟩, rfl, hs⟩⟩)
     clear hs
     intro E w hI
     obtain ⟨b6, G', hb6, rfl, hs⟩ := hI
     refine T_condS rfl (fun hif => ?_) (fun hif => ?_)
     ·
      refine T_skip ?_
      have hs := hs.f1
      have hs := hs.f1
      exact ⟨[(2, _), (19, _)], ⟨rfl, rfl, trivial⟩, ⟨_, _, ⟨fun _ => by first | exact ops_b7 (hb7.1 hif) | exact ops_b6 (hb6.1 hif) | exact ops_b5 (hb5.1 hif), fun _ => hif⟩, rfl, hs⟩⟩
     ·
      have hn6 := hif
      refine T_seqJ (fun E w => ∃ (b7 : Bool) (G' : Ghost), (b7 = true ↔ (1 < arF kd ∧ ¬ (0 ≤ rr ∧ rr < (i : Int)))) ∧ E = ⟨[], [(2, .pointer (some ⟨b2, 0, none⟩)), (6, .int .i64 ((arF kd : Nat) : Int)), (19, .bool b7)]⟩ ∧ St ⟨w0, G, feet []⟩ G' [.blk b2 42 [.int .i64 kd, u64V c0, u64V c1, u64V c2, u64V c3, .int .i64 ll, .int .i64 rr, .int .i64 mn, .int .i64 mx], .blk b3 3 [.int .i64 (i : Int)]] w) ?_ ?_
      ·
       refine T_region rfl ?_
       refine O_m rfl ?_
       refine O_y hs (Y_cmpS rfl rfl rfl (fun h37 => ?_) (fun h37 => ?_))
       ·
        dsimp only [cmpP] at h37
        refine O_m rfl ?_
        refine O_yy 38 hs rfl rfl (Y_move rfl ?_)
        refine O_yy 38 hs rfl rfl (Y_fieldAddr FO42_3 rfl (m := 6) rfl ?_)
        refine O_yy 38 hs rfl rfl (Y_ld 0 Tryz.isAgg3 rfl rfl rfl ?_)
        have hs := hs.f1
        refine O_yes 38 rfl rfl (S_callV (args := [_]) (lb := [_]) (H1 := [_]) hs rfl rfl Tryz.func66 rfl (by kernel_rfl) (in_ok (x := rr)) fun v3 G' H' _ hR hG42 hs => ?_)
        obtain ⟨rfl, rfl⟩ := hR
        replace hs : St _ _ [_, _] _ := hs
        cases h42 : decide (0 ≤ rr ∧ rr < (i : Int))
        ·
         refine O_yy 38 hs rfl rfl (Y_not rfl ?_)
         refine O_y hs (Y_pickT rfl rfl ?_)
         refine O_a rfl ?_
         have hs := hs.f1
         exact O_nil (⟨[(2, _), (6, _), (19, _)], ⟨rfl, rfl, rfl, trivial⟩, ⟨_, _, ⟨fun _ => ⟨by omega, of_decide_eq_false h42⟩, fun _ => rfl⟩, rfl, hs⟩⟩)
        ·
         refine O_yy 38 hs rfl rfl (Y_not rfl ?_)
         refine O_y hs (Y_pickT rfl rfl ?_)
         refine O_a rfl ?_
         have hs := hs.f1
         exact O_nil (⟨[(2, _), (6, _), (19, _)], ⟨rfl, rfl, rfl, trivial⟩, ⟨_, _, ⟨fun h => (by cases h), fun h => absurd (of_decide_eq_true h42) h.2⟩, rfl, hs⟩⟩)
       ·
        dsimp only [cmpP] at h37
        refine O_m rfl ?_
        refine O_no 38 rfl rfl ?_
        refine O_no 38 rfl rfl ?_
        refine O_no 38 rfl rfl ?_
        refine O_no 38 rfl rfl ?_
        refine O_no 38 rfl rfl ?_
        refine O_y hs (Y_pickF rfl rfl ?_)
        refine O_a rfl ?_
        have hs := hs.f1
        have hs := hs.f1
        exact O_nil (⟨[(2, _), (6, _), (19, _)], ⟨rfl, rfl, rfl, trivial⟩, ⟨_, _, ⟨fun h => (by cases h), fun h => absurd h.1 (by omega)⟩, rfl, hs⟩⟩)
      clear hs
      intro E w hI
      obtain ⟨b7, G', hb7, rfl, hs⟩ := hI
      refine T_condS rfl (fun hif => ?_) (fun hif => ?_)
      ·
       refine T_skip ?_
       have hs := hs.f1
       have hs := hs.f1
       exact ⟨[(2, _), (19, _)], ⟨rfl, rfl, trivial⟩, ⟨_, _, ⟨fun _ => by first | exact ops_b7 (hb7.1 hif) | exact ops_b6 (hb6.1 hif) | exact ops_b5 (hb5.1 hif), fun _ => hif⟩, rfl, hs⟩⟩
      ·
       refine T_region rfl ?_
       refine O_m rfl ?_
       refine O_y hs (Y_cmpS rfl rfl rfl (fun h46 => ?_) (fun h46 => ?_))
       ·
        dsimp only [cmpP] at h46
        refine O_m rfl ?_
        refine O_yy 47 hs rfl rfl (Y_fieldAddr FO42_3 rfl (m := 6) rfl ?_)
        refine O_yy 47 hs rfl rfl (Y_ld 0 Tryz.isAgg3 rfl rfl rfl ?_)
        refine O_yy 47 hs rfl rfl (Y_cmpS rfl rfl rfl (fun h50 => ?_) (fun h50 => ?_))
        ·
         dsimp only [cmpP] at h50
         refine O_y hs (Y_pickT rfl rfl ?_)
         refine O_a rfl ?_
         have hs := hs.f1
         have hs := hs.f1
         exact O_nil (⟨[(2, _), (19, _)], ⟨rfl, rfl, trivial⟩, ⟨_, _, ⟨fun _ => ops_b8 ⟨by dsimp only; omega, by dsimp only; omega⟩, fun _ => rfl⟩, rfl, hs⟩⟩)
        ·
         dsimp only [cmpP] at h50
         refine O_y hs (Y_pickT rfl rfl ?_)
         refine O_a rfl ?_
         have hs := hs.f1
         have hs := hs.f1
         exact O_nil (⟨[(2, _), (19, _)], ⟨rfl, rfl, trivial⟩, ⟨_, _, ⟨fun h => (by cases h), fun h => absurd (ops_all (not_of hb5 hn5) (not_of hb6 hn6) (not_of hb7 hif) (fun p => p.2 (by dsimp only; omega))) h⟩, rfl, hs⟩⟩)
       ·
        dsimp only [cmpP] at h46
        refine O_m rfl ?_
        refine O_no 47 rfl rfl ?_
        refine O_no 47 rfl rfl ?_
        refine O_no 47 rfl rfl ?_
        refine O_y hs (Y_pickF rfl rfl ?_)
        refine O_a rfl ?_
        have hs := hs.f1
        have hs := hs.f1
        exact O_nil (⟨[(2, _), (19, _)], ⟨rfl, rfl, trivial⟩, ⟨_, _, ⟨fun h => (by cases h), fun h => absurd (ops_all (not_of hb5 hn5) (not_of hb6 hn6) (not_of hb7 hif) (fun p => by have := p.1; dsimp only at this; omega)) h⟩, rfl, hs⟩⟩)
   clear hs
   intro D M L w hL hI
   obtain ⟨bj, G', hj, hE, hs⟩ := hI
   cases hE
   refine T_sub _ hL ?_
   refine T_condS rfl (fun hif => ?_) (fun hif => ?_)
   ·
    refine T_seq (T_region rfl ?_)
    refine O_a rfl ?_
    refine O_nil (T_kp [4] rfl ?_)
    refine T_ret ?_
    refine Rt_fin (vs := [_]) Tryz.results44 rfl ⟨rfl, trivial⟩ ?_
    try dsimp only [tup]
    unfold nodeE; rw [if_neg (by dsimp only; omega)]
    rw [if_pos (hj.1 hif)]
    exact ⟨_, [], hs.done, rfl, rfl⟩
   ·
    refine T_seq (T_region rfl ?_)
    refine O_y hs (Y_fieldAddr FO42_0 rfl (m := 0) rfl ?_)
    refine O_y hs (Y_ld 0 Tryz.isAgg3 rfl rfl rfl ?_)
    refine O_y hs (Y_cmpS rfl rfl rfl (fun h55 => ?_) (fun h55 => ?_))
    ·
     dsimp only [cmpP] at h55
     refine O_m rfl ?_
     refine O_yy 56 hs rfl rfl (Y_fieldAddr FO42_1 rfl (m := 1) rfl ?_)
     refine O_yy 56 hs rfl rfl (Y_ldA 0 Tryz.isAgg40 Tryz.sizeOf40 rfl rfl (vs := [_, _, _, _]) rfl rfl ?_)
     refine O_yy 56 hs rfl rfl (Y_buildA Tryz.underlying40 Tryz.sizeOf38 Tryz.zeroValue40 rfl rfl (cs := [_, _, _, _]) rfl ?_)
     refine O_yy 56 hs rfl rfl (Y_neqWS (a := [c0, c1, c2, c3]) (b := [0, 0, 0, 0]) Tryz.underlying40 Tryz.sizeOf38 Tryz.isAgg38 Tryz.underlying38 rfl rfl rfl rfl rfl hc.2 (by decide) (fun h60 => ?_) (fun h60 => ?_))
     ·
      refine O_y hs (Y_pickT rfl rfl ?_)
      refine O_a rfl ?_
      refine O_nil (T_kp [2, 52] rfl ?_)
      refine T_condT rfl (T_seq (T_region rfl ?_))
      refine O_a rfl ?_
      refine O_nil (T_kp [4] rfl ?_)
      refine T_ret ?_
      refine Rt_fin (vs := [_]) Tryz.results44 rfl ⟨rfl, trivial⟩ ?_
      try dsimp only [tup]
      unfold nodeE; rw [if_neg (by dsimp only; omega)]
      rw [if_neg (not_of hj hif)]
      rw [if_pos ⟨by dsimp only; omega, h60⟩]
      exact ⟨_, [], hs.done, rfl, rfl⟩
     ·
      refine O_y hs (Y_pickT rfl rfl ?_)
      refine O_a rfl ?_
      refine O_nil (T_kp [2, 52] rfl ?_)
      refine T_condF rfl (T_seq (T_region rfl ?_))
      refine O_y hs (Y_fieldAddr FO42_0 rfl (m := 0) rfl ?_)
      refine O_y hs (Y_ld 0 Tryz.isAgg3 rfl rfl rfl ?_)
      refine O_y hs (Y_cmpS rfl rfl rfl (fun h65 => ?_) (fun h65 => ?_))
      ·
       dsimp only [cmpP] at h65
       refine O_a rfl ?_
       refine O_nil (T_kp [2, 62] rfl ?_)
       refine T_condT rfl (T_seq (T_seq (T_region rfl ?_)))
       refine O_y hs (Y_fieldAddr FO42_4 rfl (m := 7) rfl ?_)
       refine O_y hs (Y_ld 0 Tryz.isAgg3 rfl rfl rfl ?_)
       refine O_y hs (Y_cmpS rfl rfl rfl (fun h68 => ?_) (fun h68 => ?_))
       ·
        dsimp only [cmpP] at h68
        refine O_m rfl ?_
        refine O_no 69 rfl rfl ?_
        refine O_no 69 rfl rfl ?_
        refine O_no 69 rfl rfl ?_
        refine O_y hs (Y_pickT rfl rfl ?_)
        refine O_nil (T_kp [73] rfl ?_)
        refine T_condT rfl (T_seq (T_region rfl ?_))
        refine O_a rfl ?_
        refine O_nil (T_kp [4] rfl ?_)
        refine T_ret ?_
        refine Rt_fin (vs := [_]) Tryz.results44 rfl ⟨rfl, trivial⟩ ?_
        try dsimp only [tup]
        unfold nodeE; rw [if_neg (by dsimp only; omega)]
        rw [if_neg (not_of hj hif)]
        rw [if_neg (fun h => h.2 h60)]
        rw [if_pos (by dsimp only; omega), if_pos (by dsimp only; omega)]
        exact ⟨_, [], hs.done, rfl, rfl⟩
       ·
        dsimp only [cmpP] at h68
        refine O_m rfl ?_
        refine O_yy 69 hs rfl rfl (Y_fieldAddr FO42_5 rfl (m := 8) rfl ?_)
        refine O_yy 69 hs rfl rfl (Y_ld 0 Tryz.isAgg3 rfl rfl rfl ?_)
        refine O_yy 69 hs rfl rfl (Y_cmpS rfl rfl rfl (fun h72 => ?_) (fun h72 => ?_))
        ·
         dsimp only [cmpP] at h72
         refine O_y hs (Y_pickF rfl rfl ?_)
         refine O_nil (T_kp [73] rfl ?_)
         refine T_condT rfl (T_seq (T_region rfl ?_))
         refine O_a rfl ?_
         refine O_nil (T_kp [4] rfl ?_)
         refine T_ret ?_
         refine Rt_fin (vs := [_]) Tryz.results44 rfl ⟨rfl, trivial⟩ ?_
         try dsimp only [tup]
         unfold nodeE; rw [if_neg (by dsimp only; omega)]
         rw [if_neg (not_of hj hif)]
         rw [if_neg (fun h => h.2 h60)]
         rw [if_pos (by dsimp only; omega), if_pos (by dsimp only; omega)]
         exact ⟨_, [], hs.done, rfl, rfl⟩
        ·
         dsimp only [cmpP] at h72
         refine O_y hs (Y_pickF rfl rfl ?_)
         refine O_nil (T_kp [73] rfl ?_)
         refine T_condF rfl (T_skip ?_)
         refine T_seq (T_region rfl ?_)
         refine O_a rfl ?_
         refine O_nil (T_kp [4] rfl ?_)
         refine T_ret ?_
         refine Rt_fin (vs := [_]) Tryz.results44 rfl ⟨rfl, trivial⟩ ?_
         try dsimp only [tup]
         unfold nodeE; rw [if_neg (by dsimp only; omega)]
         rw [if_neg (not_of hj hif)]
         rw [if_neg (fun h => h.2 h60)]
         rw [if_pos (by dsimp only; omega), if_neg (by dsimp only; omega)]
         exact ⟨_, [], hs.done, rfl, rfl⟩
      ·
       dsimp only [cmpP] at h65
       refine O_a rfl ?_
       refine O_nil (T_kp [2, 62] rfl ?_)
       refine T_condF rfl (T_seq (T_seq (T_region rfl ?_)))
       refine O_y hs (Y_fieldAddr FO42_4 rfl (m := 7) rfl ?_)
       refine O_y hs (Y_ld 0 Tryz.isAgg3 rfl rfl rfl ?_)
       refine O_y hs (Y_cmpS rfl rfl rfl (fun h77 => ?_) (fun h77 => ?_))
       ·
        dsimp only [cmpP] at h77
        refine O_a rfl ?_
        refine O_nil (T_kp [2, 74] rfl ?_)
        refine T_condT rfl (T_skip ?_)
        refine T_condT rfl (T_seq (T_region rfl ?_))
        refine O_a rfl ?_
        refine O_nil (T_kp [4] rfl ?_)
        refine T_ret ?_
        refine Rt_fin (vs := [_]) Tryz.results44 rfl ⟨rfl, trivial⟩ ?_
        try dsimp only [tup]
        unfold nodeE; rw [if_neg (by dsimp only; omega)]
        rw [if_neg (not_of hj hif)]
        rw [if_neg (fun h => h.2 h60)]
        rw [if_neg (by dsimp only; omega)]
        rw [if_pos (by dsimp only; omega)]
        exact ⟨_, [], hs.done, rfl, rfl⟩
       ·
        dsimp only [cmpP] at h77
        refine O_a rfl ?_
        refine O_nil (T_kp [2, 74] rfl ?_)
        refine T_condF rfl (T_region rfl ?_)
        refine O_y hs (Y_fieldAddr FO42_5 rfl (m := 8) rfl ?_)
        refine O_y hs (Y_ld 0 Tryz.isAgg3 rfl rfl rfl ?_)
        refine O_y hs (Y_cmpS rfl rfl rfl (fun h80 => ?_) (fun h80 => ?_))
        ·
         dsimp only [cmpP] at h80
         refine O_a rfl ?_
         refine O_nil (T_kp [2, 74] rfl ?_)
         refine T_condT rfl (T_seq (T_region rfl ?_))
         refine O_a rfl ?_
         refine O_nil (T_kp [4] rfl ?_)
         refine T_ret ?_
         refine Rt_fin (vs := [_]) Tryz.results44 rfl ⟨rfl, trivial⟩ ?_
         try dsimp only [tup]
         unfold nodeE; rw [if_neg (by dsimp only; omega)]
         rw [if_neg (not_of hj hif)]
         rw [if_neg (fun h => h.2 h60)]
         rw [if_neg (by dsimp only; omega)]
         rw [if_pos (by dsimp only; omega)]
         exact ⟨_, [], hs.done, rfl, rfl⟩
        ·
         dsimp only [cmpP] at h80
         refine O_a rfl ?_
         refine O_nil (T_kp [2, 74] rfl ?_)
         refine T_condF rfl (T_seq (T_seq (T_region rfl ?_)))
         refine O_y hs (Y_fieldAddr FO42_4 rfl (m := 7) rfl ?_)
         refine O_y hs (Y_ld 0 Tryz.isAgg3 rfl rfl rfl ?_)
         refine O_y hs (Y_cmpS rfl rfl rfl (fun h84 => ?_) (fun h84 => ?_))
         ·
          dsimp only [cmpP] at h84
          refine O_a rfl ?_
          refine O_nil (T_kp [2, 81] rfl ?_)
          refine T_condT rfl (T_skip ?_)
          refine T_condT rfl (T_seq (T_region rfl ?_))
          refine O_a rfl ?_
          refine O_nil (T_kp [4] rfl ?_)
          refine T_ret ?_
          refine Rt_fin (vs := [_]) Tryz.results44 rfl ⟨rfl, trivial⟩ ?_
          try dsimp only [tup]
          unfold nodeE; rw [if_neg (by dsimp only; omega)]
          rw [if_neg (not_of hj hif)]
          rw [if_neg (fun h => h.2 h60)]
          rw [if_neg (by dsimp only; omega)]
          rw [if_neg (by dsimp only; omega)]
          rw [if_pos (by dsimp only; omega)]
          exact ⟨_, [], hs.done, rfl, rfl⟩
         ·
          dsimp only [cmpP] at h84
          refine O_a rfl ?_
          refine O_nil (T_kp [2, 81] rfl ?_)
          refine T_condF rfl (T_region rfl ?_)
          refine O_y hs (Y_fieldAddr FO42_5 rfl (m := 8) rfl ?_)
          refine O_y hs (Y_ld 0 Tryz.isAgg3 rfl rfl rfl ?_)
          refine O_y hs (Y_cmpS rfl rfl rfl (fun h87 => ?_) (fun h87 => ?_))
          ·
           dsimp only [cmpP] at h87
           refine O_a rfl ?_
           refine O_nil (T_kp [2, 81] rfl ?_)
           refine T_condT rfl (T_seq (T_region rfl ?_))
           refine O_a rfl ?_
           refine O_nil (T_kp [4] rfl ?_)
           refine T_ret ?_
           refine Rt_fin (vs := [_]) Tryz.results44 rfl ⟨rfl, trivial⟩ ?_
           try dsimp only [tup]
           unfold nodeE; rw [if_neg (by dsimp only; omega)]
           rw [if_neg (not_of hj hif)]
           rw [if_neg (fun h => h.2 h60)]
           rw [if_neg (by dsimp only; omega)]
           rw [if_neg (by dsimp only; omega)]
           rw [if_pos (by dsimp only; omega)]
           exact ⟨_, [], hs.done, rfl, rfl⟩
          ·
           dsimp only [cmpP] at h87
           refine O_a rfl ?_
           refine O_nil (T_kp [2, 81] rfl ?_)
           refine T_condF rfl (T_seq (T_region rfl ?_))
           refine O_y hs (Y_fieldAddr FO42_5 rfl (m := 8) rfl ?_)
           refine O_y hs (Y_ld 0 Tryz.isAgg3 rfl rfl rfl ?_)
           refine O_y hs (Y_cmpS rfl rfl rfl (fun h91 => ?_) (fun h91 => ?_))
           ·
            dsimp only [cmpP] at h91
            refine O_m rfl ?_
            refine O_yy 92 hs rfl rfl (Y_fieldAddr FO42_5 rfl (m := 8) rfl ?_)
            refine O_yy 92 hs rfl rfl (Y_ld 0 Tryz.isAgg3 rfl rfl rfl ?_)
            refine O_yy 92 hs rfl rfl (Y_fieldAddr FO42_4 rfl (m := 7) rfl ?_)
            refine O_yy 92 hs rfl rfl (Y_ld 0 Tryz.isAgg3 rfl rfl rfl ?_)
            refine O_yy 92 hs rfl rfl (Y_cmpS rfl rfl rfl (fun h97 => ?_) (fun h97 => ?_))
            ·
             dsimp only [cmpP] at h97
             refine O_y hs (Y_pickT rfl rfl ?_)
             refine O_a rfl ?_
             refine O_nil (T_kp [88] rfl ?_)
             refine T_condT rfl (T_seq (T_region rfl ?_))
             refine O_a rfl ?_
             refine O_nil (T_kp [4] rfl ?_)
             refine T_ret ?_
             refine Rt_fin (vs := [_]) Tryz.results44 rfl ⟨rfl, trivial⟩ ?_
             try dsimp only [tup]
             unfold nodeE; rw [if_neg (by dsimp only; omega)]
             rw [if_neg (not_of hj hif)]
             rw [if_neg (fun h => h.2 h60)]
             rw [if_neg (by dsimp only; omega)]
             rw [if_neg (by dsimp only; omega)]
             rw [if_neg (by dsimp only; omega)]
             rw [if_pos (by dsimp only; omega)]
             exact ⟨_, [], hs.done, rfl, rfl⟩
            ·
             dsimp only [cmpP] at h97
             refine O_y hs (Y_pickT rfl rfl ?_)
             refine O_a rfl ?_
             refine O_nil (T_kp [88] rfl ?_)
             refine T_condF rfl (T_skip ?_)
             refine T_seq (T_region rfl ?_)
             refine O_a rfl ?_
             refine O_nil (T_kp [4] rfl ?_)
             refine T_ret ?_
             refine Rt_fin (vs := [_]) Tryz.results44 rfl ⟨rfl, trivial⟩ ?_
             try dsimp only [tup]
             unfold nodeE; rw [if_neg (by dsimp only; omega)]
             rw [if_neg (not_of hj hif)]
             rw [if_neg (fun h => h.2 h60)]
             rw [if_neg (by dsimp only; omega)]
             rw [if_neg (by dsimp only; omega)]
             rw [if_neg (by dsimp only; omega)]
             rw [if_neg (by dsimp only; omega)]
             exact ⟨_, [], hs.done, rfl, rfl⟩
           ·
            dsimp only [cmpP] at h91
            refine O_m rfl ?_
            refine O_no 92 rfl rfl ?_
            refine O_no 92 rfl rfl ?_
            refine O_no 92 rfl rfl ?_
            refine O_no 92 rfl rfl ?_
            refine O_no 92 rfl rfl ?_
            refine O_y hs (Y_pickF rfl rfl ?_)
            refine O_a rfl ?_
            refine O_nil (T_kp [88] rfl ?_)
            refine T_condF rfl (T_skip ?_)
            refine T_seq (T_region rfl ?_)
            refine O_a rfl ?_
            refine O_nil (T_kp [4] rfl ?_)
            refine T_ret ?_
            refine Rt_fin (vs := [_]) Tryz.results44 rfl ⟨rfl, trivial⟩ ?_
            try dsimp only [tup]
            unfold nodeE; rw [if_neg (by dsimp only; omega)]
            rw [if_neg (not_of hj hif)]
            rw [if_neg (fun h => h.2 h60)]
            rw [if_neg (by dsimp only; omega)]
            rw [if_neg (by dsimp only; omega)]
            rw [if_neg (by dsimp only; omega)]
            rw [if_neg (by dsimp only; omega)]
            exact ⟨_, [], hs.done, rfl, rfl⟩
    ·
     dsimp only [cmpP] at h55
     refine O_m rfl ?_
     refine O_no 56 rfl rfl ?_
     refine O_no 56 rfl rfl ?_
     refine O_no 56 rfl rfl ?_
     refine O_no 56 rfl rfl ?_
     refine O_y hs (Y_pickF rfl rfl ?_)
     refine O_a rfl ?_
     refine O_nil (T_kp [2, 52] rfl ?_)
     refine T_condF rfl (T_seq (T_region rfl ?_))
     refine O_y hs (Y_fieldAddr FO42_0 rfl (m := 0) rfl ?_)
     refine O_y hs (Y_ld 0 Tryz.isAgg3 rfl rfl rfl ?_)
     refine O_y hs (Y_cmpS rfl rfl rfl (fun h65 => ?_) (fun h65 => ?_))
     ·
      dsimp only [cmpP] at h65
      refine O_a rfl ?_
      refine O_nil (T_kp [2, 62] rfl ?_)
      refine T_condT rfl (T_seq (T_seq (T_region rfl ?_)))
      refine O_y hs (Y_fieldAddr FO42_4 rfl (m := 7) rfl ?_)
      refine O_y hs (Y_ld 0 Tryz.isAgg3 rfl rfl rfl ?_)
      refine O_y hs (Y_cmpS rfl rfl rfl (fun h68 => ?_) (fun h68 => ?_))
      ·
       dsimp only [cmpP] at h68
       refine O_m rfl ?_
       refine O_no 69 rfl rfl ?_
       refine O_no 69 rfl rfl ?_
       refine O_no 69 rfl rfl ?_
       refine O_y hs (Y_pickT rfl rfl ?_)
       refine O_nil (T_kp [73] rfl ?_)
       refine T_condT rfl (T_seq (T_region rfl ?_))
       refine O_a rfl ?_
       refine O_nil (T_kp [4] rfl ?_)
       refine T_ret ?_
       refine Rt_fin (vs := [_]) Tryz.results44 rfl ⟨rfl, trivial⟩ ?_
       try dsimp only [tup]
       unfold nodeE; rw [if_neg (by dsimp only; omega)]
       rw [if_neg (not_of hj hif)]
       rw [if_neg (fun h => absurd h.1 (by dsimp only; omega))]
       rw [if_pos (by dsimp only; omega), if_pos (by dsimp only; omega)]
       exact ⟨_, [], hs.done, rfl, rfl⟩
      ·
       dsimp only [cmpP] at h68
       refine O_m rfl ?_
       refine O_yy 69 hs rfl rfl (Y_fieldAddr FO42_5 rfl (m := 8) rfl ?_)
       refine O_yy 69 hs rfl rfl (Y_ld 0 Tryz.isAgg3 rfl rfl rfl ?_)
       refine O_yy 69 hs rfl rfl (Y_cmpS rfl rfl rfl (fun h72 => ?_) (fun h72 => ?_))
       ·
        dsimp only [cmpP] at h72
        refine O_y hs (Y_pickF rfl rfl ?_)
        refine O_nil (T_kp [73] rfl ?_)
        refine T_condT rfl (T_seq (T_region rfl ?_))
        refine O_a rfl ?_
        refine O_nil (T_kp [4] rfl ?_)
        refine T_ret ?_
        refine Rt_fin (vs := [_]) Tryz.results44 rfl ⟨rfl, trivial⟩ ?_
        try dsimp only [tup]
        unfold nodeE; rw [if_neg (by dsimp only; omega)]
        rw [if_neg (not_of hj hif)]
        rw [if_neg (fun h => absurd h.1 (by dsimp only; omega))]
        rw [if_pos (by dsimp only; omega), if_pos (by dsimp only; omega)]
        exact ⟨_, [], hs.done, rfl, rfl⟩
       ·
        dsimp only [cmpP] at h72
        refine O_y hs (Y_pickF rfl rfl ?_)
        refine O_nil (T_kp [73] rfl ?_)
        refine T_condF rfl (T_skip ?_)
        refine T_seq (T_region rfl ?_)
        refine O_a rfl ?_
        refine O_nil (T_kp [4] rfl ?_)
        refine T_ret ?_
        refine Rt_fin (vs := [_]) Tryz.results44 rfl ⟨rfl, trivial⟩ ?_
        try dsimp only [tup]
        unfold nodeE; rw [if_neg (by dsimp only; omega)]
        rw [if_neg (not_of hj hif)]
        rw [if_neg (fun h => absurd h.1 (by dsimp only; omega))]
        rw [if_pos (by dsimp only; omega), if_neg (by dsimp only; omega)]
        exact ⟨_, [], hs.done, rfl, rfl⟩
     ·
      dsimp only [cmpP] at h65
      refine O_a rfl ?_
      refine O_nil (T_kp [2, 62] rfl ?_)
      refine T_condF rfl (T_seq (T_seq (T_region rfl ?_)))
      refine O_y hs (Y_fieldAddr FO42_4 rfl (m := 7) rfl ?_)
      refine O_y hs (Y_ld 0 Tryz.isAgg3 rfl rfl rfl ?_)
      refine O_y hs (Y_cmpS rfl rfl rfl (fun h77 => ?_) (fun h77 => ?_))
      ·
       dsimp only [cmpP] at h77
       refine O_a rfl ?_
       refine O_nil (T_kp [2, 74] rfl ?_)
       refine T_condT rfl (T_skip ?_)
       refine T_condT rfl (T_seq (T_region rfl ?_))
       refine O_a rfl ?_
       refine O_nil (T_kp [4] rfl ?_)
       refine T_ret ?_
       refine Rt_fin (vs := [_]) Tryz.results44 rfl ⟨rfl, trivial⟩ ?_
       try dsimp only [tup]
       unfold nodeE; rw [if_neg (by dsimp only; omega)]
       rw [if_neg (not_of hj hif)]
       rw [if_neg (fun h => absurd h.1 (by dsimp only; omega))]
       rw [if_neg (by dsimp only; omega)]
       rw [if_pos (by dsimp only; omega)]
       exact ⟨_, [], hs.done, rfl, rfl⟩
      ·
       dsimp only [cmpP] at h77
       refine O_a rfl ?_
       refine O_nil (T_kp [2, 74] rfl ?_)
       refine T_condF rfl (T_region rfl ?_)
       refine O_y hs (Y_fieldAddr FO42_5 rfl (m := 8) rfl ?_)
       refine O_y hs (Y_ld 0 Tryz.isAgg3 rfl rfl rfl ?_)
       refine O_y hs (Y_cmpS rfl rfl rfl (fun h80 => ?_) (fun h80 => ?_))
       ·
        dsimp only [cmpP] at h80
        refine O_a rfl ?_
        refine O_nil (T_kp [2, 74] rfl ?_)
        refine T_condT rfl (T_seq (T_region rfl ?_))
        refine O_a rfl ?_
        refine O_nil (T_kp [4] rfl ?_)
        refine T_ret ?_
        refine Rt_fin (vs := [_]) Tryz.results44 rfl ⟨rfl, trivial⟩ ?_
        try dsimp only [tup]
        unfold nodeE; rw [if_neg (by dsimp only; omega)]
        rw [if_neg (not_of hj hif)]
        rw [if_neg (fun h => absurd h.1 (by dsimp only; omega))]
        rw [if_neg (by dsimp only; omega)]
        rw [if_pos (by dsimp only; omega)]
        exact ⟨_, [], hs.done, rfl, rfl⟩
       ·
        dsimp only [cmpP] at h80
        refine O_a rfl ?_
        refine O_nil (T_kp [2, 74] rfl ?_)
        refine T_condF rfl (T_seq (T_seq (T_region rfl ?_)))
        refine O_y hs (Y_fieldAddr FO42_4 rfl (m := 7) rfl ?_)
        refine O_y hs (Y_ld 0 Tryz.isAgg3 rfl rfl rfl ?_)
        refine O_y hs (Y_cmpS rfl rfl rfl (fun h84 => ?_) (fun h84 => ?_))
        ·
         dsimp only [cmpP] at h84
         refine O_a rfl ?_
         refine O_nil (T_kp [2, 81] rfl ?_)
         refine T_condT rfl (T_skip ?_)
         refine T_condT rfl (T_seq (T_region rfl ?_))
         refine O_a rfl ?_
         refine O_nil (T_kp [4] rfl ?_)
         refine T_ret ?_
         refine Rt_fin (vs := [_]) Tryz.results44 rfl ⟨rfl, trivial⟩ ?_
         try dsimp only [tup]
         unfold nodeE; rw [if_neg (by dsimp only; omega)]
         rw [if_neg (not_of hj hif)]
         rw [if_neg (fun h => absurd h.1 (by dsimp only; omega))]
         rw [if_neg (by dsimp only; omega)]
         rw [if_neg (by dsimp only; omega)]
         rw [if_pos (by dsimp only; omega)]
         exact ⟨_, [], hs.done, rfl, rfl⟩
        ·
         dsimp only [cmpP] at h84
         refine O_a rfl ?_
         refine O_nil (T_kp [2, 81] rfl ?_)
         refine T_condF rfl (T_region rfl ?_)
         refine O_y hs (Y_fieldAddr FO42_5 rfl (m := 8) rfl ?_)
         refine O_y hs (Y_ld 0 Tryz.isAgg3 rfl rfl rfl ?_)
         refine O_y hs (Y_cmpS rfl rfl rfl (fun h87 => ?_) (fun h87 => ?_))
         ·
          dsimp only [cmpP] at h87
          refine O_a rfl ?_
          refine O_nil (T_kp [2, 81] rfl ?_)
          refine T_condT rfl (T_seq (T_region rfl ?_))
          refine O_a rfl ?_
          refine O_nil (T_kp [4] rfl ?_)
          refine T_ret ?_
          refine Rt_fin (vs := [_]) Tryz.results44 rfl ⟨rfl, trivial⟩ ?_
          try dsimp only [tup]
          unfold nodeE; rw [if_neg (by dsimp only; omega)]
          rw [if_neg (not_of hj hif)]
          rw [if_neg (fun h => absurd h.1 (by dsimp only; omega))]
          rw [if_neg (by dsimp only; omega)]
          rw [if_neg (by dsimp only; omega)]
          rw [if_pos (by dsimp only; omega)]
          exact ⟨_, [], hs.done, rfl, rfl⟩
         ·
          dsimp only [cmpP] at h87
          refine O_a rfl ?_
          refine O_nil (T_kp [2, 81] rfl ?_)
          refine T_condF rfl (T_seq (T_region rfl ?_))
          refine O_y hs (Y_fieldAddr FO42_5 rfl (m := 8) rfl ?_)
          refine O_y hs (Y_ld 0 Tryz.isAgg3 rfl rfl rfl ?_)
          refine O_y hs (Y_cmpS rfl rfl rfl (fun h91 => ?_) (fun h91 => ?_))
          ·
           dsimp only [cmpP] at h91
           refine O_m rfl ?_
           refine O_yy 92 hs rfl rfl (Y_fieldAddr FO42_5 rfl (m := 8) rfl ?_)
           refine O_yy 92 hs rfl rfl (Y_ld 0 Tryz.isAgg3 rfl rfl rfl ?_)
           refine O_yy 92 hs rfl rfl (Y_fieldAddr FO42_4 rfl (m := 7) rfl ?_)
           refine O_yy 92 hs rfl rfl (Y_ld 0 Tryz.isAgg3 rfl rfl rfl ?_)
           refine O_yy 92 hs rfl rfl (Y_cmpS rfl rfl rfl (fun h97 => ?_) (fun h97 => ?_))
           ·
            dsimp only [cmpP] at h97
            refine O_y hs (Y_pickT rfl rfl ?_)
            refine O_a rfl ?_
            refine O_nil (T_kp [88] rfl ?_)
            refine T_condT rfl (T_seq (T_region rfl ?_))
            refine O_a rfl ?_
            refine O_nil (T_kp [4] rfl ?_)
            refine T_ret ?_
            refine Rt_fin (vs := [_]) Tryz.results44 rfl ⟨rfl, trivial⟩ ?_
            try dsimp only [tup]
            unfold nodeE; rw [if_neg (by dsimp only; omega)]
            rw [if_neg (not_of hj hif)]
            rw [if_neg (fun h => absurd h.1 (by dsimp only; omega))]
            rw [if_neg (by dsimp only; omega)]
            rw [if_neg (by dsimp only; omega)]
            rw [if_neg (by dsimp only; omega)]
            rw [if_pos (by dsimp only; omega)]
            exact ⟨_, [], hs.done, rfl, rfl⟩
           ·
            dsimp only [cmpP] at h97
            refine O_y hs (Y_pickT rfl rfl ?_)
            refine O_a rfl ?_
            refine O_nil (T_kp [88] rfl ?_)
            refine T_condF rfl (T_skip ?_)
            refine T_seq (T_region rfl ?_)
            refine O_a rfl ?_
            refine O_nil (T_kp [4] rfl ?_)
            refine T_ret ?_
            refine Rt_fin (vs := [_]) Tryz.results44 rfl ⟨rfl, trivial⟩ ?_
            try dsimp only [tup]
            unfold nodeE; rw [if_neg (by dsimp only; omega)]
            rw [if_neg (not_of hj hif)]
            rw [if_neg (fun h => absurd h.1 (by dsimp only; omega))]
            rw [if_neg (by dsimp only; omega)]
            rw [if_neg (by dsimp only; omega)]
            rw [if_neg (by dsimp only; omega)]
            rw [if_neg (by dsimp only; omega)]
            exact ⟨_, [], hs.done, rfl, rfl⟩
          ·
           dsimp only [cmpP] at h91
           refine O_m rfl ?_
           refine O_no 92 rfl rfl ?_
           refine O_no 92 rfl rfl ?_
           refine O_no 92 rfl rfl ?_
           refine O_no 92 rfl rfl ?_
           refine O_no 92 rfl rfl ?_
           refine O_y hs (Y_pickF rfl rfl ?_)
           refine O_a rfl ?_
           refine O_nil (T_kp [88] rfl ?_)
           refine T_condF rfl (T_skip ?_)
           refine T_seq (T_region rfl ?_)
           refine O_a rfl ?_
           refine O_nil (T_kp [4] rfl ?_)
           refine T_ret ?_
           refine Rt_fin (vs := [_]) Tryz.results44 rfl ⟨rfl, trivial⟩ ?_
           try dsimp only [tup]
           unfold nodeE; rw [if_neg (by dsimp only; omega)]
           rw [if_neg (not_of hj hif)]
           rw [if_neg (fun h => absurd h.1 (by dsimp only; omega))]
           rw [if_neg (by dsimp only; omega)]
           rw [if_neg (by dsimp only; omega)]
           rw [if_neg (by dsimp only; omega)]
           rw [if_neg (by dsimp only; omega)]
           exact ⟨_, [], hs.done, rfl, rfl⟩

set_option maxHeartbeats 2000000 in
set_option maxRecDepth 10000 in
theorem valid_ok {G : Ghost} {v : Value} {l : List NodeV} (hx : Rx G v l) (hl : l.length ≤ 1000000000) :
  FnOk Tryz.prog 24 [v] G [] fun r _ H' => H' = [] ∧ r = .int .i64 (validF l) := by
 obtain ⟨A, cap, rfl⟩ := LstR.slice hx
 refine FnOk.of_T [(0, _)] Tryz.func24 rfl Tryz.ntmps24 (by simp) rfl fun w0 hs => ?_
 have hx0 := hx
 refine T_seq (T_region rfl ?_)
 refine O_a rfl ?_
 refine O_nil (T_kp [0] rfl ?_)
 refine T_seq (T_block (T_seq (T_region rfl ?_)))
 refine O_m rfl ?_
 refine O_y hs (Y_len Tryz.underlying24 rfl ?_)
 refine O_y hs (Y_cmpS rfl rfl rfl (fun h12 => ?_) (fun h12 => ?_))
 ·
  dsimp only [cmpP] at h12
  refine O_a rfl ?_
  refine O_nil (T_kp [0, 9] rfl ?_)
  refine T_condT rfl (T_seq (T_region rfl ?_))
  refine O_a rfl ?_
  refine O_nil (T_kp [2] rfl ?_)
  refine T_ret ?_
  refine Rt_fin (vs := [_]) Tryz.results24 rfl ⟨rfl, trivial⟩ ?_
  try dsimp only [tup]
  rw [valid_big (by omega)]
  exact ⟨_, [], hs.done, rfl, rfl⟩
 ·
  dsimp only [cmpP] at h12
  refine O_a rfl ?_
  refine O_nil (T_kp [0, 9] rfl ?_)
  refine T_condF rfl (T_seq (T_region rfl ?_))
  refine O_m rfl ?_
  refine O_y hs (Y_len Tryz.underlying24 rfl ?_)
  refine O_y hs (Y_cmpS rfl rfl rfl (fun h16 => ?_) (fun h16 => ?_))
  ·
   dsimp only [cmpP] at h16
   refine O_a rfl ?_
   refine O_nil (T_kp [0, 13] rfl ?_)
   refine T_condT rfl (T_seq (T_region rfl ?_))
   refine O_a rfl ?_
   refine O_nil (T_kp [2] rfl ?_)
   refine T_ret ?_
   refine Rt_fin (vs := [_]) Tryz.results24 rfl ⟨rfl, trivial⟩ ?_
   try dsimp only [tup]
   rw [valid_nil (by omega)]
   exact ⟨_, [], hs.done, rfl, rfl⟩
  ·
   dsimp only [cmpP] at h16
   refine O_a rfl ?_
   refine O_nil (T_kp [0, 13] rfl ?_)
   refine T_condF rfl (T_skip ?_)
   refine T_seq (T_region rfl ?_)
   refine O_m rfl ?_
   refine O_y hs (Y_len Tryz.underlying24 rfl ?_)
   refine O_s (S_make (n := l.length) (m := l.length) hs Tryz.underlying66 TI3 rfl rfl rfl (by omega) (by omega) (by omega) fun b19 _ hs => ?_)
   refine O_a rfl ?_
   refine O_nil (T_kp [0, 3] rfl ?_)
   refine T_seq (T_seq (T_region rfl ?_))
   refine O_m rfl ?_
   refine O_y hs (Y_len Tryz.underlying24 rfl ?_)
   refine O_m rfl ?_
   refine O_nil (T_kp [0, 3, 20, 21, 22] rfl ?_)
   refine T_block (T_loop (fun m E w => ∃ (k : Nat) (cs : List Nat) (G' : Ghost), k ≤ l.length ∧ cs = (l.take k).foldl stepC (List.replicate l.length 0) ∧ errF 0 l = errF k (l.drop k) ∧ cs.length = l.length ∧ (∀ x ∈ cs, x ≤ 2 * k) ∧ m = l.length - k ∧ E = ⟨[], [(0, (.slice A l.length cap)), (3, .slice (some ⟨b19, 0, none⟩) l.length l.length), (20, (.slice A l.length cap)), (21, .int .i64 ((l.length : Nat) : Int)), (22, .int .i64 (k : Int))]⟩ ∧ St ⟨w0, G, feet []⟩ G' [.row 3 1 (.slice (some ⟨b19, 0, none⟩) l.length l.length) l.length (cs.map natV)] w) (L := [(0, _), (3, _), (20, _), (21, _), (22, _)]) ⟨rfl, rfl, rfl, rfl, rfl, trivial⟩ (⟨0, List.replicate l.length 0, _, by omega, rfl, rfl, by simp, fun x hx => by rw [List.eq_of_mem_replicate hx]; exact Nat.zero_le _, rfl, rfl, by rw [List.map_replicate]; exact hs⟩) fun m E w hI => ?_)
   obtain ⟨k, cs, G', hk, hcs, herr, hcl, hcb, rfl, rfl, hs⟩ := hI
   have hx := hx0.mono hs.le
   refine T_seq (T_region rfl ?_)
   refine O_y hs (Y_cmpS rfl rfl rfl (fun h23 => ?_) (fun h23 => ?_))
   ·
    dsimp only [cmpP] at h23
    refine O_nil (T_kp [0, 3, 20, 21, 22, 23] rfl ?_)
    refine T_seq (T_condT rfl (T_skip ?_))
    refine T_seq (T_block (T_seq (T_region rfl ?_)))
    refine O_m rfl ?_
    refine O_y hs (Y_idxS hx k Tryz.underlying24 Tryz.sizeOf42 rfl rfl rfl (by omega) fun p25 c25 hp25 hc25 hR25 => ?_)
    obtain ⟨rfl, hco⟩ := hR25
    obtain ⟨nk, hnk⟩ : ∃ n, n = l[k] := ⟨_, rfl⟩
    rw [← hnk] at hp25 hco
    obtain ⟨kd, cc, ll, rr, mn, mx⟩ := nk
    obtain ⟨c0, c1, c2, c3, rfl⟩ := four_of hco.1
    refine O_y hs (Y_ldAG (vs := [.int .i64 kd, u64V c0, u64V c1, u64V c2, u64V c3, .int .i64 ll, .int .i64 rr, .int .i64 mn, .int .i64 mx]) Tryz.isAgg42 Tryz.sizeOf42 rfl hp25 rfl ?_)
    refine O_s (S_alloc hs Tryz.zeroValue42 (cs := [_, _, _, _, _, _, _, _, _]) rfl fun b5 _ hs => ?_)
    refine O_a rfl ?_
    refine O_n (S_stA hs Tryz.sizeOf42 rfl rfl (vs := [_, _, _, _, _, _, _, _, _]) rfl (rfl) (by simp) (cs' := [_, _, _, _, _, _, _, _, _]) rfl fun _ hs => ?_)
    refine O_nil (T_kp [0, 3, 4, 5, 20, 21, 22] rfl ?_)
    refine T_seq (T_seq (T_region rfl ?_))
    refine O_y hs (Y_ldA 0 Tryz.isAgg42 Tryz.sizeOf42 rfl rfl (vs := [_, _, _, _, _, _, _, _, _]) rfl rfl ?_)
    refine O_m rfl ?_
    refine O_s (S_call (H1 := []) hs rfl Tryz.func44 rfl (by kernel_rfl) (chk_ok (n := ⟨kd, [c0, c1, c2, c3], ll, rr, mn, mx⟩) (i := k) hco) fun v1 G' H' _ hR hG29 hs => ?_)
    obtain ⟨rfl, rfl⟩ := hR
    replace hs : St _ _ [_, _] _ := hs
    replace hx := hx.mono hG29
    refine O_a rfl ?_
    refine O_nil (T_kp [0, 3, 5, 6, 20, 21, 22] rfl ?_)
    refine T_seq (T_region rfl ?_)
    refine O_m rfl ?_
    refine O_y hs (Y_cmpS rfl rfl rfl (fun h31 => ?_) (fun h31 => ?_))
    ·
     dsimp only [cmpP] at h31
     refine O_nil (T_kp [0, 3, 5, 6, 20, 21, 22, 31] rfl ?_)
     refine T_condT rfl (T_seq (T_region rfl ?_))
     refine O_m rfl ?_
     refine O_a rfl ?_
     refine O_nil (T_kp [2] rfl ?_)
     refine T_ret ?_
     refine Rt_fin (vs := [_]) Tryz.results24 rfl ⟨rfl, trivial⟩ ?_
     try dsimp only [tup]
     have he := errF_bad (l := l) (k := k) (by omega) (by rw [← hnk]; exact h31)
     rw [valid_err (by omega) (by omega) (by rw [herr, he, ← hnk]; exact h31), herr, he, ← hnk]
     exact ⟨_, [], hs.done, rfl, rfl⟩
    ·
     dsimp only [cmpP] at h31
     refine O_nil (T_kp [0, 3, 5, 6, 20, 21, 22, 31] rfl ?_)
     refine T_condF rfl (T_skip ?_)
     have hne : nodeE ⟨kd, [c0, c1, c2, c3], ll, rr, mn, mx⟩ k = 0 := by omega
     refine T_seq (T_seq (T_region rfl ?_))
     refine O_y hs (Y_fieldAddr FO42_0 rfl (m := 0) rfl ?_)
     refine O_y hs (Y_ld 0 Tryz.isAgg3 rfl rfl rfl ?_)
     refine O_s (S_call (H1 := []) hs rfl Tryz.func45 rfl (by kernel_rfl) (ari_ok) fun v2 G' H' _ hR hG35 hs => ?_)
     obtain ⟨rfl, rfl⟩ := hR
     replace hs : St _ _ [_, _] _ := hs
     replace hx := hx.mono hG35
     refine O_y hs (Y_cmpS rfl rfl rfl (fun h36 => ?_) (fun h36 => ?_))
     ·
      dsimp only [cmpP] at h36
      refine O_nil (T_kp [0, 3, 5, 20, 21, 22, 36] rfl ?_)
      have hop := ops_l (nodeE_ops hne) (by dsimp only; omega)
      dsimp only at hop
      obtain ⟨L, rfl⟩ : ∃ L : Nat, ll = (L : Int) := Int.eq_ofNat_of_zero_le hop.1
      have hL : L < cs.length := by omega
      refine T_condT rfl (T_region rfl ?_)
      refine O_m rfl ?_
      refine O_y hs (Y_fieldAddr FO42_2 rfl (m := 5) rfl ?_)
      refine O_y hs (Y_ld 0 Tryz.isAgg3 rfl rfl rfl ?_)
      refine O_y hs (Y_idxRow (L) Tryz.underlying66 Tryz.sizeOf3 rfl rfl rfl (by omega) ?_)
      refine O_y hs (Y_ldRow 1 rfl Tryz.isAgg3 rfl (by rw [List.getElem?_map, List.getElem?_eq_getElem hL]; rfl) ?_)
      refine O_y hs (Y_add (c := ((cs[L]'hL + 1 : Nat) : Int)) rfl rfl (by omega) (by have := hcb _ (List.getElem_mem hL); omega) ?_)
      refine O_y hs (Y_idxRow (L) Tryz.underlying66 Tryz.sizeOf3 rfl rfl rfl (by omega) ?_)
      have hs := hs.f1
      refine O_n (S_stRow hs Tryz.sizeOf3 rfl rfl rfl (by omega) fun _ hs => ?_)
      refine O_nil (T_kp [0, 3, 5, 20, 21, 22] rfl ?_)
      rw [set_mod hL] at hs
      refine T_seq (T_region rfl ?_)
      refine O_y hs (Y_fieldAddr FO42_0 rfl (m := 0) rfl ?_)
      refine O_y hs (Y_ld 1 Tryz.isAgg3 rfl rfl rfl ?_)
      refine O_s (S_call (H1 := []) hs rfl Tryz.func45 rfl (by kernel_rfl) (ari_ok) fun v3 G' H' _ hR hG46 hs => ?_)
      obtain ⟨rfl, rfl⟩ := hR
      replace hs : St _ _ [_, _] _ := hs
      replace hx := hx.mono hG46
      refine O_y hs (Y_cmpS rfl rfl rfl (fun h47 => ?_) (fun h47 => ?_))
      ·
       dsimp only [cmpP] at h47
       refine O_nil (T_kp [0, 3, 5, 20, 21, 22, 47] rfl ?_)
       have hop2 := ops_r (nodeE_ops hne) (by dsimp only; omega)
       dsimp only at hop2
       obtain ⟨R, rfl⟩ : ∃ R : Nat, rr = (R : Int) := Int.eq_ofNat_of_zero_le hop2.1
       have hR : R < (cs.modify L (· + 1)).length := by rw [List.length_modify]; omega
       refine T_condT rfl (T_region rfl ?_)
       refine O_m rfl ?_
       refine O_y hs (Y_fieldAddr FO42_3 rfl (m := 6) rfl ?_)
       refine O_y hs (Y_ld 1 Tryz.isAgg3 rfl rfl rfl ?_)
       refine O_y hs (Y_idxRow (R) Tryz.underlying66 Tryz.sizeOf3 rfl rfl rfl (by omega) ?_)
       refine O_y hs (Y_ldRow 0 rfl Tryz.isAgg3 rfl (by rw [List.getElem?_map, List.getElem?_eq_getElem hR]; rfl) ?_)
       refine O_y hs (Y_add (c := (((cs.modify L (· + 1))[R]'hR + 1 : Nat) : Int)) rfl rfl (by omega) (by have := mod_le hcb _ (List.getElem_mem hR); omega) ?_)
       refine O_y hs (Y_idxRow (R) Tryz.underlying66 Tryz.sizeOf3 rfl rfl rfl (by omega) ?_)
       refine O_n (S_stRow hs Tryz.sizeOf3 rfl rfl rfl (by omega) fun _ hs => ?_)
       refine O_nil (T_kp [0, 3, 20, 21, 22] rfl ?_)
       rw [set_mod hR] at hs
       refine T_region rfl ?_
       refine O_y hs (Y_add (c := ((k + 1 : Nat) : Int)) rfl rfl (by omega) (by omega) ?_)
       refine O_m rfl ?_
       refine O_nil ⟨_, ?_, [(0, _), (3, _), (20, _), (21, _), (22, _)], ⟨rfl, rfl, rfl, rfl, rfl, trivial⟩, ⟨k + 1, stepC cs l[k], _, by omega, by rw [foldl_take_succ _ _ _ _ (by omega), ← hcs], by rw [herr]; exact errF_step (by omega) (by rw [← hnk]; exact hne), by rw [stepC_len]; exact hcl, fun x hx => by have := stepC_le hcb x hx; omega, rfl, rfl, by rw [← hnk]; unfold stepC; rw [if_pos (by dsimp only; omega)]; exact hs.weak hs.le (Ghost.le.refl _) (List.sublist_append_left [_] _)⟩⟩
       omega
      ·
       dsimp only [cmpP] at h47
       refine O_nil (T_kp [0, 3, 5, 20, 21, 22, 47] rfl ?_)
       refine T_condF rfl (T_skip ?_)
       refine T_region rfl ?_
       refine O_y hs (Y_add (c := ((k + 1 : Nat) : Int)) rfl rfl (by omega) (by omega) ?_)
       refine O_m rfl ?_
       refine O_nil ⟨_, ?_, [(0, _), (3, _), (20, _), (21, _), (22, _)], ⟨rfl, rfl, rfl, rfl, rfl, trivial⟩, ⟨k + 1, stepC cs l[k], _, by omega, by rw [foldl_take_succ _ _ _ _ (by omega), ← hcs], by rw [herr]; exact errF_step (by omega) (by rw [← hnk]; exact hne), by rw [stepC_len]; exact hcl, fun x hx => by have := stepC_le hcb x hx; omega, rfl, rfl, by rw [← hnk]; unfold stepC; rw [if_neg (by dsimp only; omega), if_pos (by dsimp only; omega)]; exact hs.weak hs.le (Ghost.le.refl _) (List.sublist_append_left [_] _)⟩⟩
       omega
     ·
      dsimp only [cmpP] at h36
      refine O_nil (T_kp [0, 3, 5, 20, 21, 22, 36] rfl ?_)
      refine T_condF rfl (T_skip ?_)
      refine T_seq (T_region rfl ?_)
      refine O_y hs (Y_fieldAddr FO42_0 rfl (m := 0) rfl ?_)
      refine O_y hs (Y_ld 0 Tryz.isAgg3 rfl rfl rfl ?_)
      refine O_s (S_call (H1 := []) hs rfl Tryz.func45 rfl (by kernel_rfl) (ari_ok) fun v4 G' H' _ hR hG46 hs => ?_)
      obtain ⟨rfl, rfl⟩ := hR
      replace hs : St _ _ [_, _] _ := hs
      replace hx := hx.mono hG46
      refine O_y hs (Y_cmpF rfl rfl rfl (by omega) ?_)
      refine O_nil (T_kp [0, 3, 5, 20, 21, 22, 47] rfl ?_)
      refine T_condF rfl (T_skip ?_)
      refine T_region rfl ?_
      refine O_y hs (Y_add (c := ((k + 1 : Nat) : Int)) rfl rfl (by omega) (by omega) ?_)
      refine O_m rfl ?_
      have hs := hs.f1
      refine O_nil ⟨_, ?_, [(0, _), (3, _), (20, _), (21, _), (22, _)], ⟨rfl, rfl, rfl, rfl, rfl, trivial⟩, ⟨k + 1, stepC cs l[k], _, by omega, by rw [foldl_take_succ _ _ _ _ (by omega), ← hcs], by rw [herr]; exact errF_step (by omega) (by rw [← hnk]; exact hne), by rw [stepC_len]; exact hcl, fun x hx => by have := stepC_le hcb x hx; omega, rfl, rfl, by rw [← hnk]; unfold stepC; rw [if_neg (by dsimp only; omega), if_neg (by dsimp only; omega)]; exact hs.weak hs.le (Ghost.le.refl _) (List.sublist_append_left [_] _)⟩⟩
      omega
   ·
    dsimp only [cmpP] at h23
    refine O_nil (T_kp [0, 3, 20, 21, 22, 23] rfl ?_)
    refine T_seq (T_condF rfl (T_exit ?_))
    obtain rfl : k = l.length := by omega
    rw [List.take_length] at hcs
    have hcs' : cntF l = cs := hcs.symm
    rw [List.drop_length] at herr
    have h0e : errF 0 l = 0 := herr
    obtain ⟨_, hG17, hsl, hs⟩ := hs.fixRow noM
    have hI := ints_nat hsl (by omega)
    refine T_seq (T_seq (T_region rfl ?_))
    refine O_m rfl ?_
    refine O_m rfl ?_
    refine O_y hs (Y_len Tryz.underlying24 rfl ?_)
    refine O_y hs (Y_sub (c := ((l.length - 1 : Nat) : Int)) rfl rfl (by omega) (by omega) ?_)
    refine O_y hs (Y_sliceI hI 0 (l.length - 1) Tryz.underlying66 Tryz.sizeOf3 rfl rfl ⟨_, _, rfl, rfl⟩ (by omega) (by rw [List.length_map]; omega) fun s60 hs60 => ?_)
    obtain ⟨A60, c60, rfl, _⟩ := id hs60
    refine O_y hs (Y_len Tryz.underlying66 rfl ?_)
    refine O_m rfl ?_
    refine O_nil (T_kp [60, 61, 62] rfl ?_)
    refine T_block (T_loop (fun m E w => ∃ (j : Nat) (G' : Ghost), j ≤ l.length - 1 ∧ (∀ i, i < j → cs.getD i 0 = 1) ∧ Ints G' (.slice A60 (((cs.map fun n : Nat => (n : Int)).drop 0).take (l.length - 1 - 0)).length c60) (((cs.map fun n : Nat => (n : Int)).drop 0).take (l.length - 1 - 0)) ∧ m = l.length - 1 - j ∧ E = ⟨[], [(60, .slice A60 (((cs.map fun n : Nat => (n : Int)).drop 0).take (l.length - 1 - 0)).length c60), (61, .int .i64 ((((cs.map fun n : Nat => (n : Int)).drop 0).take (l.length - 1 - 0)).length : Int)), (62, .int .i64 (j : Int))]⟩ ∧ St ⟨w0, G, feet []⟩ G' [] w) (L := [(60, _), (61, _), (62, _)]) ⟨rfl, rfl, rfl, trivial⟩ (⟨0, _, by omega, fun i hi => absurd hi (by omega), hs60, rfl, rfl, hs⟩) fun m E w hI => ?_)
    obtain ⟨j, G', hj, hone, hsj, rfl, rfl, hs⟩ := hI
    have hx := hx0.mono hs.le
    have hlen : (((cs.map fun n : Nat => (n : Int)).drop 0).take (l.length - 1 - 0)).length = l.length - 1 := by rw [List.length_take, List.length_drop, List.length_map]; omega
    refine T_seq (T_region rfl ?_)
    refine O_y hs (Y_cmpS rfl rfl rfl (fun h63 => ?_) (fun h63 => ?_))
    ·
     dsimp only [cmpP] at h63
     refine O_nil (T_kp [60, 61, 62, 63] rfl ?_)
     refine T_seq (T_condT rfl (T_skip ?_))
     refine T_seq (T_block (T_seq (T_region rfl ?_)))
     refine O_y hs (Y_idxI hsj j Tryz.underlying66 Tryz.sizeOf3 rfl rfl rfl (by omega) fun p64 hp64 => ?_)
     refine O_y hs (Y_ldG Tryz.isAgg3 rfl (hp64) ?_)
     refine O_a rfl ?_
     refine O_nil (T_kp [8, 60, 61, 62] rfl ?_)
     refine T_seq (T_region rfl ?_)
     refine O_m rfl ?_
     have hel : (((cs.map fun n : Nat => (n : Int)).drop 0).take (l.length - 1 - 0))[j]'(by omega) = ((cs[j]'(by omega) : Nat) : Int) := by simp
     refine O_y hs (Y_cmpS rfl rfl rfl (fun h67 => ?_) (fun h67 => ?_))
     ·
      dsimp only [cmpP] at h67
      refine O_nil (T_kp [60, 61, 62, 67] rfl ?_)
      refine T_condT rfl (T_seq (T_region rfl ?_))
      refine O_a rfl ?_
      refine O_nil (T_kp [2] rfl ?_)
      refine T_ret ?_
      refine Rt_fin (vs := [_]) Tryz.results24 rfl ⟨rfl, trivial⟩ ?_
      try dsimp only [tup]
      rw [valid_cnt (by omega) (by omega) h0e, hcs', ones_not (i := j) (by omega) (by omega) (fun h => h67 (by rw [hel]; omega))]
      exact ⟨_, [], hs.done, rfl, rfl⟩
     ·
      dsimp only [cmpP] at h67
      refine O_nil (T_kp [60, 61, 62, 67] rfl ?_)
      refine T_condF rfl (T_skip ?_)
      refine T_region rfl ?_
      refine O_y hs (Y_add (c := ((j + 1 : Nat) : Int)) rfl rfl (by omega) (by omega) ?_)
      refine O_m rfl ?_
      have h1j : cs.getD j 0 = 1 := by rw [List.getD_eq_getElem?_getD, List.getElem?_eq_getElem (by omega), Option.getD_some]; omega
      refine O_nil ⟨_, ?_, [(60, _), (61, _), (62, _)], ⟨rfl, rfl, rfl, trivial⟩, ⟨j + 1, _, by omega, fun i hi => (Nat.lt_or_ge i j).elim (hone i) (fun h' => by rw [show i = j by omega]; exact h1j), hsj, rfl, rfl, hs⟩⟩
      omega
    ·
     dsimp only [cmpP] at h63
     refine O_nil (T_kp [60, 61, 62, 63] rfl ?_)
     refine T_seq (T_condF rfl (T_exit ?_))
     refine T_seq (T_region rfl ?_)
     refine O_a rfl ?_
     refine O_nil (T_kp [2] rfl ?_)
     refine T_ret ?_
     refine Rt_fin (vs := [_]) Tryz.results24 rfl ⟨rfl, trivial⟩ ?_
     try dsimp only [tup]
     rw [valid_cnt (by omega) (by omega) h0e, hcs', ones_all (m := l.length - 1) (fun i hi => hone i (by omega))]
     exact ⟨_, [], hs.done, rfl, rfl⟩

end Go.Proofs.YtkmgbcjfidpmgaaGreatDoor
