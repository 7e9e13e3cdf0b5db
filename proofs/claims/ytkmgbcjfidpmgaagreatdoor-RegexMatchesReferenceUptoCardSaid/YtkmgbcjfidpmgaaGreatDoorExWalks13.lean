import Derived.Test.YtkmgbcjfidpmgaaGreatDoorExWalks8
import Derived.Test.YtkmgbcjfidpmgaaGreatDoorScan
import Derived.Test.YtkmgbcjfidpmgaaGreatDoorProg
import Derived.Test.YtkmgbcjfidpmgaaGreatDoorSame
import Derived.Test.YtkmgbcjfidpmgaaGreatDoorExThin
import Derived.Test.YtkmgbcjfidpmgaaGreatDoorShelf
namespace Go.Proofs.YtkmgbcjfidpmgaaGreatDoor
open Go Go.Ex Go.RowKit


def isR (s : List UInt8) (er : Int) (q : Nat) (b : UInt8) : Bool := decide (er = 0) && isB s q b
theorem isR_0 {s : List UInt8} {er : Int} {q : Nat} {b : UInt8} (h : ¬ er = 0) : isR s er q b = false := by unfold isR; rw [decide_eq_false h]; rfl
theorem isR_ok {s : List UInt8} {q : Nat} {b : UInt8} : isR s 0 q b = isB s q b := by unfold isR; simp
theorem isR_t {s : List UInt8} {er : Int} {q : Nat} {b : UInt8} (h : isR s er q b = true) : er = 0 ∧ isB s q b = true := by unfold isR at h; simpa using h
theorem isR_1 {s : List UInt8} {er : Int} {q : Nat} {b : UInt8} (h : s.length ≤ q) : isR s er q b = false := by
  unfold isR isB; rw [List.getElem?_eq_none h]; cases decide (er = 0) <;> rfl
theorem isR_2 {s : List UInt8} {er : Int} {q : Nat} {b : UInt8} (h0 : er = 0) (h : q < s.length) (hb : (s[q].toNat : Int) = b.toNat) : isR s er q b = true := by
  unfold isR isB; rw [decide_eq_true h0, List.getElem?_eq_getElem h, show s[q] = b from UInt8.toNat_inj.1 (by omega)]; simp
theorem isR_3 {s : List UInt8} {er : Int} {q : Nat} {b : UInt8} (h : q < s.length) (hb : ¬ (s[q].toNat : Int) = b.toNat) : isR s er q b = false := by
  unfold isR isB; rw [List.getElem?_eq_getElem h]
  have : ¬ s[q] = b := fun e => hb (by rw [e])
  cases decide (er = 0) <;> simp [this]
theorem isR_lt {s : List UInt8} {er : Int} {q : Nat} {b : UInt8} (h : isR s er q b = true) : q < s.length := isB_lt (isR_t h).2
def failE (er c : Int) : Int := if er = 0 then c else er
def failW (er wh w : Int) : Int := if er = 0 then w else wh
theorem failE_t {er c : Int} (h : er = 0) : failE er c = c := if_pos h
theorem failE_f {er c : Int} (h : ¬ er = 0) : failE er c = er := if_neg h
theorem failW_t {er wh w : Int} (h : er = 0) : failW er wh w = w := if_pos h
theorem failW_f {er wh w : Int} (h : ¬ er = 0) : failW er wh w = wh := if_neg h


set_option maxHeartbeats 400000 in
set_option maxRecDepth 10000 in
theorem rops_ok {G : Ghost} {k : Int} :
  FnOk Tryz.prog 41 [.int .i64 k] G [] fun r _ H' => H' = [] ∧ r = .int .i64 ((arF k : Nat) : Int) := by
 refine FnOk.of_T [(0, _)] Tryz.func41 rfl Tryz.ntmps41 (by simp) rfl fun w0 hs => ?_
 refine T_seq (T_region rfl ?_)
 refine O_a rfl ?_
 refine O_nil (T_kp [0] rfl ?_)
 refine T_seq (T_seq (T_region rfl ?_))
 refine O_m rfl ?_
 refine O_nil (T_kp [3] rfl ?_)
 refine T_block (T_seq (T_seq (T_region rfl ?_)))
 refine O_y hs (Y_cmpS rfl rfl rfl (fun h5 => ?_) (fun h5 => ?_))
 ·
  dsimp only [cmpP] at h5
  refine O_a rfl ?_
  refine O_nil (T_kp [3, 4] rfl ?_)
  refine T_condT rfl (T_skip ?_)
  refine T_condT rfl (T_seq (T_region rfl ?_))
  refine O_a rfl ?_
  refine O_nil (T_kp [2] rfl ?_)
  refine T_ret ?_
  refine Rt_fin (vs := [_]) Tryz.results41 rfl ⟨rfl, trivial⟩ ?_
  try dsimp only [tup]
  exact ⟨_, [], hs.done, rfl, by rw [arF_2 (by omega)]; rfl⟩
 ·
  dsimp only [cmpP] at h5
  refine O_a rfl ?_
  refine O_nil (T_kp [3, 4] rfl ?_)
  refine T_condF rfl (T_seq (T_region rfl ?_))
  refine O_y hs (Y_cmpS rfl rfl rfl (fun h6 => ?_) (fun h6 => ?_))
  ·
   dsimp only [cmpP] at h6
   refine O_a rfl ?_
   refine O_nil (T_kp [3, 4] rfl ?_)
   refine T_condT rfl (T_skip ?_)
   refine T_condT rfl (T_seq (T_region rfl ?_))
   refine O_a rfl ?_
   refine O_nil (T_kp [2] rfl ?_)
   refine T_ret ?_
   refine Rt_fin (vs := [_]) Tryz.results41 rfl ⟨rfl, trivial⟩ ?_
   try dsimp only [tup]
   exact ⟨_, [], hs.done, rfl, by rw [arF_2 (by omega)]; rfl⟩
  ·
   dsimp only [cmpP] at h6
   refine O_a rfl ?_
   refine O_nil (T_kp [3, 4] rfl ?_)
   refine T_condF rfl (T_region rfl ?_)
   refine O_y hs (Y_cmpS rfl rfl rfl (fun h7 => ?_) (fun h7 => ?_))
   ·
    dsimp only [cmpP] at h7
    refine O_a rfl ?_
    refine O_nil (T_kp [3, 4] rfl ?_)
    refine T_condT rfl (T_seq (T_region rfl ?_))
    refine O_a rfl ?_
    refine O_nil (T_kp [2] rfl ?_)
    refine T_ret ?_
    refine Rt_fin (vs := [_]) Tryz.results41 rfl ⟨rfl, trivial⟩ ?_
    try dsimp only [tup]
    exact ⟨_, [], hs.done, rfl, by rw [arF_2 (by omega)]; rfl⟩
   ·
    dsimp only [cmpP] at h7
    refine O_a rfl ?_
    refine O_nil (T_kp [3, 4] rfl ?_)
    refine T_condF rfl (T_seq (T_seq (T_region rfl ?_)))
    refine O_y hs (Y_cmpS rfl rfl rfl (fun h9 => ?_) (fun h9 => ?_))
    ·
     dsimp only [cmpP] at h9
     refine O_a rfl ?_
     refine O_nil (T_kp [3, 8] rfl ?_)
     refine T_condT rfl (T_skip ?_)
     refine T_condT rfl (T_seq (T_region rfl ?_))
     refine O_a rfl ?_
     refine O_nil (T_kp [2] rfl ?_)
     refine T_ret ?_
     refine Rt_fin (vs := [_]) Tryz.results41 rfl ⟨rfl, trivial⟩ ?_
     try dsimp only [tup]
     exact ⟨_, [], hs.done, rfl, by rw [arF_1 (by omega)]; rfl⟩
    ·
     dsimp only [cmpP] at h9
     refine O_a rfl ?_
     refine O_nil (T_kp [3, 8] rfl ?_)
     refine T_condF rfl (T_region rfl ?_)
     refine O_y hs (Y_cmpS rfl rfl rfl (fun h10 => ?_) (fun h10 => ?_))
     ·
      dsimp only [cmpP] at h10
      refine O_a rfl ?_
      refine O_nil (T_kp [8] rfl ?_)
      refine T_condT rfl (T_seq (T_region rfl ?_))
      refine O_a rfl ?_
      refine O_nil (T_kp [2] rfl ?_)
      refine T_ret ?_
      refine Rt_fin (vs := [_]) Tryz.results41 rfl ⟨rfl, trivial⟩ ?_
      try dsimp only [tup]
      exact ⟨_, [], hs.done, rfl, by rw [arF_1 (by omega)]; rfl⟩
     ·
      dsimp only [cmpP] at h10
      refine O_a rfl ?_
      refine O_nil (T_kp [8] rfl ?_)
      refine T_condF rfl (T_skip ?_)
      refine T_seq (T_region rfl ?_)
      refine O_a rfl ?_
      refine O_nil (T_kp [2] rfl ?_)
      refine T_ret ?_
      refine Rt_fin (vs := [_]) Tryz.results41 rfl ⟨rfl, trivial⟩ ?_
      try dsimp only [tup]
      exact ⟨_, [], hs.done, rfl, by rw [arF_0 (by omega) (by omega)]; rfl⟩

set_option maxHeartbeats 2000000 in
set_option maxRecDepth 10000 in
theorem rnodev_ok {G : Ghost} {n : NodeV} {i : Nat} (hc : ClsOk n.c) :
  FnOk Tryz.prog 46 [.agg (nodeC n).toArray, .int .i64 (i : Int)] G [] fun r _ H' => H' = [] ∧ r = .int .i64 (nodeE n i) := by
 obtain ⟨kd, c, ll, rr, mn, mx⟩ := n
 obtain ⟨c0, c1, c2, c3, rfl⟩ := four_of hc.1
 show FnOk Tryz.prog 46 [.agg #[.int .i64 kd, u64V c0, u64V c1, u64V c2, u64V c3, .int .i64 ll, .int .i64 rr, .int .i64 mn, .int .i64 mx], .int .i64 (i : Int)] G [] _
 refine FnOk.of_T [(0, _), (1, _)] Tryz.func46 rfl Tryz.ntmps46 (by simp) rfl fun w0 hs => ?_
 refine T_seq (T_region rfl ?_)
 refine O_s (S_box hs rfl (cs := [_, _, _, _, _, _, _, _, _]) rfl fun b2 _ hs => ?_)
 refine O_a rfl ?_
 refine O_nil (T_kp [1, 2] rfl ?_)
 refine T_seq (T_region rfl ?_)
 refine O_y hs (Y_fieldAddr FO42_0 rfl (m := 0) rfl ?_)
 refine O_y hs (Y_ld 0 Tryz.isAgg3 rfl rfl rfl ?_)
 refine O_s (S_call (H1 := []) hs rfl Tryz.func41 rfl (by kernel_rfl) (rops_ok) fun v1 G' H' _ hR hG8 hs => ?_)
 obtain ⟨rfl, rfl⟩ := hR
 replace hs : St _ _ [_] _ := hs
 refine O_a rfl ?_
 refine O_nil (T_kp [1, 2, 5] rfl ?_)
 refine T_seq (T_seq (T_region rfl ?_))
 refine O_y hs (Y_fieldAddr FO42_0 rfl (m := 0) rfl ?_)
 refine O_y hs (Y_ld 0 Tryz.isAgg3 rfl rfl rfl ?_)
 refine O_y hs (Y_cmpS rfl rfl rfl (fun h11 => ?_) (fun h11 => ?_))
 ·
  dsimp only [cmpP] at h11
  refine O_m rfl ?_
  refine O_no 12 rfl rfl ?_
  refine O_no 12 rfl rfl ?_
  refine O_no 12 rfl rfl ?_
  refine O_y hs (Y_pickT rfl rfl ?_)
  refine O_nil (T_kp [1, 2, 5, 16] rfl ?_)
  refine T_condT rfl (T_seq (T_region rfl ?_))
  refine O_a rfl ?_
  refine O_nil (T_kp [4] rfl ?_)
  refine T_ret ?_
  refine Rt_fin (vs := [_]) Tryz.results46 rfl ⟨rfl, trivial⟩ ?_
  try dsimp only [tup]
  unfold nodeE; rw [if_pos (by dsimp only; omega)]
  exact ⟨_, [], hs.done, rfl, rfl⟩
 ·
  dsimp only [cmpP] at h11
  refine O_m rfl ?_
  refine O_yy 12 hs rfl rfl (Y_fieldAddr FO42_0 rfl (m := 0) rfl ?_)
  refine O_yy 12 hs rfl rfl (Y_ld 0 Tryz.isAgg3 rfl rfl rfl ?_)
  refine O_yy 12 hs rfl rfl (Y_cmpS rfl rfl rfl (fun h15 => ?_) (fun h15 => ?_))
  ·
   dsimp only [cmpP] at h15
   refine O_y hs (Y_pickF rfl rfl ?_)
   refine O_nil (T_kp [1, 2, 5, 16] rfl ?_)
   refine T_condT rfl (T_seq (T_region rfl ?_))
   refine O_a rfl ?_
   refine O_nil (T_kp [4] rfl ?_)
   refine T_ret ?_
   refine Rt_fin (vs := [_]) Tryz.results46 rfl ⟨rfl, trivial⟩ ?_
   try dsimp only [tup]
   unfold nodeE; rw [if_pos (by dsimp only; omega)]
   exact ⟨_, [], hs.done, rfl, rfl⟩
  ·
   dsimp only [cmpP] at h15
   refine O_y hs (Y_pickF rfl rfl ?_)
   refine O_nil (T_kp [1, 2, 5, 16] rfl ?_)
   refine T_condF rfl (T_skip ?_)
   refine T_seq (T_seqJ (fun E w => ∃ (bj : Bool) (G' : Ghost), (bj = true ↔ ¬ opsOk ⟨kd, [c0, c1, c2, c3], ll, rr, mn, mx⟩ (i : Int)) ∧ E = ⟨[], [(2, .pointer (some ⟨b2, 0, none⟩)), (62, .bool bj)]⟩ ∧ St ⟨w0, G, feet []⟩ G' [.blk b2 42 [.int .i64 kd, u64V c0, u64V c1, u64V c2, u64V c3, .int .i64 ll, .int .i64 rr, .int .i64 mn, .int .i64 mx]] w) ?_ ?_)
   ·
    refine T_region rfl ?_
    refine O_m rfl ?_
    rcases arF_three kd with ha | ha | ha
    ·
     refine O_y hs (Y_cmpF rfl rfl rfl (by omega) ?_)
     refine O_m rfl ?_
     refine O_no 19 rfl rfl ?_
     refine O_no 19 rfl rfl ?_
     refine O_no 19 rfl rfl ?_
     refine O_no 19 rfl rfl ?_
     refine O_noU 23 rfl rfl ?_
     refine O_noU 23 rfl rfl ?_
     refine O_noU 23 rfl rfl ?_
     refine O_noU 23 rfl rfl ?_
     refine O_no 19 rfl rfl ?_
     refine O_y hs (Y_pickF rfl rfl ?_)
     refine O_m rfl ?_
     refine O_yy 30 hs rfl rfl (Y_move rfl ?_)
     refine O_yy 30 hs rfl rfl (Y_cmpT rfl rfl rfl (by omega) ?_)
     refine O_yy 30 hs rfl rfl (Y_move rfl ?_)
     refine O_yy 33 hs rfl rfl (Y_fieldAddr FO42_2 rfl (m := 5) rfl ?_)
     refine O_yy 33 hs rfl rfl (Y_ld 0 Tryz.isAgg3 rfl rfl rfl ?_)
     refine O_yy 33 hs rfl rfl (Y_cmpS rfl rfl rfl (fun h36 => ?_) (fun h36 => ?_))
     ·
      dsimp only [cmpP] at h36
      refine O_yy 30 hs rfl rfl (Y_pickT rfl rfl ?_)
      refine O_y hs (Y_pickF rfl rfl ?_)
      refine O_m rfl ?_
      refine O_no 39 rfl rfl ?_
      refine O_no 39 rfl rfl ?_
      refine O_no 39 rfl rfl ?_
      refine O_noU 42 rfl rfl ?_
      refine O_noU 42 rfl rfl ?_
      refine O_noU 42 rfl rfl ?_
      refine O_noU 42 rfl rfl ?_
      refine O_noU 46 rfl rfl ?_
      refine O_noU 46 rfl rfl ?_
      refine O_noU 46 rfl rfl ?_
      refine O_noU 46 rfl rfl ?_
      refine O_noU 42 rfl rfl ?_
      refine O_no 39 rfl rfl ?_
      refine O_y hs (Y_pickT rfl rfl ?_)
      refine O_m rfl ?_
      refine O_no 54 rfl rfl ?_
      refine O_no 54 rfl rfl ?_
      refine O_no 54 rfl rfl ?_
      refine O_noU 57 rfl rfl ?_
      refine O_noU 57 rfl rfl ?_
      refine O_noU 57 rfl rfl ?_
      refine O_no 54 rfl rfl ?_
      refine O_y hs (Y_pickT rfl rfl ?_)
      exact O_nil (⟨[(2, _), (62, _)], ⟨rfl, rfl, trivial⟩, ⟨_, _, ⟨fun _ => ops_b6 ⟨by dsimp only; omega, by dsimp only; omega⟩, fun _ => rfl⟩, rfl, hs⟩⟩)
     ·
      dsimp only [cmpP] at h36
      refine O_yy 30 hs rfl rfl (Y_pickT rfl rfl ?_)
      refine O_y hs (Y_pickF rfl rfl ?_)
      refine O_m rfl ?_
      refine O_yy 39 hs rfl rfl (Y_move rfl ?_)
      refine O_yy 39 hs rfl rfl (Y_cmpF rfl rfl rfl (by omega) ?_)
      refine O_yy 39 hs rfl rfl (Y_move rfl ?_)
      refine O_no 42 rfl rfl ?_
      refine O_no 42 rfl rfl ?_
      refine O_no 42 rfl rfl ?_
      refine O_no 42 rfl rfl ?_
      refine O_noU 46 rfl rfl ?_
      refine O_noU 46 rfl rfl ?_
      refine O_noU 46 rfl rfl ?_
      refine O_noU 46 rfl rfl ?_
      refine O_no 42 rfl rfl ?_
      refine O_yy 39 hs rfl rfl (Y_pickF rfl rfl ?_)
      refine O_y hs (Y_pickF rfl rfl ?_)
      refine O_m rfl ?_
      refine O_yy 54 hs rfl rfl (Y_move rfl ?_)
      refine O_yy 54 hs rfl rfl (Y_cmpT rfl rfl rfl (by omega) ?_)
      refine O_yy 54 hs rfl rfl (Y_move rfl ?_)
      refine O_yy 57 hs rfl rfl (Y_fieldAddr FO42_3 rfl (m := 6) rfl ?_)
      refine O_yy 57 hs rfl rfl (Y_ld 0 Tryz.isAgg3 rfl rfl rfl ?_)
      refine O_yy 57 hs rfl rfl (Y_cmpS rfl rfl rfl (fun h60 => ?_) (fun h60 => ?_))
      ·
       dsimp only [cmpP] at h60
       refine O_yy 54 hs rfl rfl (Y_pickT rfl rfl ?_)
       refine O_y hs (Y_pickF rfl rfl ?_)
       exact O_nil (⟨[(2, _), (62, _)], ⟨rfl, rfl, trivial⟩, ⟨_, _, ⟨fun _ => ops_b8 ⟨by dsimp only; omega, by dsimp only; omega⟩, fun _ => rfl⟩, rfl, hs⟩⟩)
      ·
       dsimp only [cmpP] at h60
       refine O_yy 54 hs rfl rfl (Y_pickT rfl rfl ?_)
       refine O_y hs (Y_pickF rfl rfl ?_)
       exact O_nil (⟨[(2, _), (62, _)], ⟨rfl, rfl, trivial⟩, ⟨_, _, ⟨fun h => (by cases h), fun h => absurd (ops_all (fun p => by have h1 := p.1; have h2 := p.2; dsimp only at h1 h2; omega) (fun p => by have h1 := p.1; have h2 := p.2; dsimp only at h1 h2; omega) (fun p => by have h1 := p.1; have h2 := p.2; dsimp only at h1 h2; omega) (fun p => by have h1 := p.1; have h2 := p.2; dsimp only at h1 h2; omega)) h⟩, rfl, hs⟩⟩)
    ·
     refine O_y hs (Y_cmpT rfl rfl rfl (by omega) ?_)
     refine O_m rfl ?_
     refine O_yy 19 hs rfl rfl (Y_fieldAddr FO42_2 rfl (m := 5) rfl ?_)
     refine O_yy 19 hs rfl rfl (Y_ld 0 Tryz.isAgg3 rfl rfl rfl ?_)
     refine O_yy 19 hs rfl rfl (Y_cmpS rfl rfl rfl (fun h22 => ?_) (fun h22 => ?_))
     ·
      dsimp only [cmpP] at h22
      refine O_yy 19 hs rfl rfl (Y_move rfl ?_)
      refine O_no 23 rfl rfl ?_
      refine O_no 23 rfl rfl ?_
      refine O_no 23 rfl rfl ?_
      refine O_no 23 rfl rfl ?_
      refine O_yy 19 hs rfl rfl (Y_pickT rfl rfl ?_)
      refine O_y hs (Y_pickT rfl rfl ?_)
      refine O_m rfl ?_
      refine O_no 30 rfl rfl ?_
      refine O_no 30 rfl rfl ?_
      refine O_no 30 rfl rfl ?_
      refine O_noU 33 rfl rfl ?_
      refine O_noU 33 rfl rfl ?_
      refine O_noU 33 rfl rfl ?_
      refine O_no 30 rfl rfl ?_
      refine O_y hs (Y_pickT rfl rfl ?_)
      refine O_m rfl ?_
      refine O_no 39 rfl rfl ?_
      refine O_no 39 rfl rfl ?_
      refine O_no 39 rfl rfl ?_
      refine O_noU 42 rfl rfl ?_
      refine O_noU 42 rfl rfl ?_
      refine O_noU 42 rfl rfl ?_
      refine O_noU 42 rfl rfl ?_
      refine O_noU 46 rfl rfl ?_
      refine O_noU 46 rfl rfl ?_
      refine O_noU 46 rfl rfl ?_
      refine O_noU 46 rfl rfl ?_
      refine O_noU 42 rfl rfl ?_
      refine O_no 39 rfl rfl ?_
      refine O_y hs (Y_pickT rfl rfl ?_)
      refine O_m rfl ?_
      refine O_no 54 rfl rfl ?_
      refine O_no 54 rfl rfl ?_
      refine O_no 54 rfl rfl ?_
      refine O_noU 57 rfl rfl ?_
      refine O_noU 57 rfl rfl ?_
      refine O_noU 57 rfl rfl ?_
      refine O_no 54 rfl rfl ?_
      refine O_y hs (Y_pickT rfl rfl ?_)
      exact O_nil (⟨[(2, _), (62, _)], ⟨rfl, rfl, trivial⟩, ⟨_, _, ⟨fun _ => ops_b5 ⟨by dsimp only; omega, by dsimp only; omega⟩, fun _ => rfl⟩, rfl, hs⟩⟩)
     ·
      dsimp only [cmpP] at h22
      refine O_yy 19 hs rfl rfl (Y_move rfl ?_)
      refine O_yy 23 hs rfl rfl (Y_fieldAddr FO42_2 rfl (m := 5) rfl ?_)
      refine O_yy 23 hs rfl rfl (Y_ld 0 Tryz.isAgg3 rfl rfl rfl ?_)
      refine O_yy 23 hs rfl rfl (Y_move rfl ?_)
      refine O_yy 23 hs rfl rfl (Y_cmpS rfl rfl rfl (fun h27 => ?_) (fun h27 => ?_))
      ·
       dsimp only [cmpP] at h27
       refine O_yy 19 hs rfl rfl (Y_pickF rfl rfl ?_)
       refine O_y hs (Y_pickT rfl rfl ?_)
       refine O_m rfl ?_
       refine O_no 30 rfl rfl ?_
       refine O_no 30 rfl rfl ?_
       refine O_no 30 rfl rfl ?_
       refine O_noU 33 rfl rfl ?_
       refine O_noU 33 rfl rfl ?_
       refine O_noU 33 rfl rfl ?_
       refine O_no 30 rfl rfl ?_
       refine O_y hs (Y_pickT rfl rfl ?_)
       refine O_m rfl ?_
       refine O_no 39 rfl rfl ?_
       refine O_no 39 rfl rfl ?_
       refine O_no 39 rfl rfl ?_
       refine O_noU 42 rfl rfl ?_
       refine O_noU 42 rfl rfl ?_
       refine O_noU 42 rfl rfl ?_
       refine O_noU 42 rfl rfl ?_
       refine O_noU 46 rfl rfl ?_
       refine O_noU 46 rfl rfl ?_
       refine O_noU 46 rfl rfl ?_
       refine O_noU 46 rfl rfl ?_
       refine O_noU 42 rfl rfl ?_
       refine O_no 39 rfl rfl ?_
       refine O_y hs (Y_pickT rfl rfl ?_)
       refine O_m rfl ?_
       refine O_no 54 rfl rfl ?_
       refine O_no 54 rfl rfl ?_
       refine O_no 54 rfl rfl ?_
       refine O_noU 57 rfl rfl ?_
       refine O_noU 57 rfl rfl ?_
       refine O_noU 57 rfl rfl ?_
       refine O_no 54 rfl rfl ?_
       refine O_y hs (Y_pickT rfl rfl ?_)
       exact O_nil (⟨[(2, _), (62, _)], ⟨rfl, rfl, trivial⟩, ⟨_, _, ⟨fun _ => ops_b5 ⟨by dsimp only; omega, by dsimp only; omega⟩, fun _ => rfl⟩, rfl, hs⟩⟩)
      ·
       dsimp only [cmpP] at h27
       refine O_yy 19 hs rfl rfl (Y_pickF rfl rfl ?_)
       refine O_y hs (Y_pickT rfl rfl ?_)
       refine O_m rfl ?_
       refine O_yy 30 hs rfl rfl (Y_move rfl ?_)
       refine O_yy 30 hs rfl rfl (Y_cmpF rfl rfl rfl (by omega) ?_)
       refine O_yy 30 hs rfl rfl (Y_move rfl ?_)
       refine O_no 33 rfl rfl ?_
       refine O_no 33 rfl rfl ?_
       refine O_no 33 rfl rfl ?_
       refine O_yy 30 hs rfl rfl (Y_pickF rfl rfl ?_)
       refine O_y hs (Y_pickF rfl rfl ?_)
       refine O_m rfl ?_
       refine O_yy 39 hs rfl rfl (Y_move rfl ?_)
       refine O_yy 39 hs rfl rfl (Y_cmpF rfl rfl rfl (by omega) ?_)
       refine O_yy 39 hs rfl rfl (Y_move rfl ?_)
       refine O_no 42 rfl rfl ?_
       refine O_no 42 rfl rfl ?_
       refine O_no 42 rfl rfl ?_
       refine O_no 42 rfl rfl ?_
       refine O_noU 46 rfl rfl ?_
       refine O_noU 46 rfl rfl ?_
       refine O_noU 46 rfl rfl ?_
       refine O_noU 46 rfl rfl ?_
       refine O_no 42 rfl rfl ?_
       refine O_yy 39 hs rfl rfl (Y_pickF rfl rfl ?_)
       refine O_y hs (Y_pickF rfl rfl ?_)
       refine O_m rfl ?_
       refine O_yy 54 hs rfl rfl (Y_move rfl ?_)
       refine O_yy 54 hs rfl rfl (Y_cmpT rfl rfl rfl (by omega) ?_)
       refine O_yy 54 hs rfl rfl (Y_move rfl ?_)
       refine O_yy 57 hs rfl rfl (Y_fieldAddr FO42_3 rfl (m := 6) rfl ?_)
       refine O_yy 57 hs rfl rfl (Y_ld 0 Tryz.isAgg3 rfl rfl rfl ?_)
       refine O_yy 57 hs rfl rfl (Y_cmpS rfl rfl rfl (fun h60 => ?_) (fun h60 => ?_))
       ·
        dsimp only [cmpP] at h60
        refine O_yy 54 hs rfl rfl (Y_pickT rfl rfl ?_)
        refine O_y hs (Y_pickF rfl rfl ?_)
        exact O_nil (⟨[(2, _), (62, _)], ⟨rfl, rfl, trivial⟩, ⟨_, _, ⟨fun _ => ops_b8 ⟨by dsimp only; omega, by dsimp only; omega⟩, fun _ => rfl⟩, rfl, hs⟩⟩)
       ·
        dsimp only [cmpP] at h60
        refine O_yy 54 hs rfl rfl (Y_pickT rfl rfl ?_)
        refine O_y hs (Y_pickF rfl rfl ?_)
        exact O_nil (⟨[(2, _), (62, _)], ⟨rfl, rfl, trivial⟩, ⟨_, _, ⟨fun h => (by cases h), fun h => absurd (ops_all (fun p => by have h1 := p.1; have h2 := p.2; dsimp only at h1 h2; omega) (fun p => by have h1 := p.1; have h2 := p.2; dsimp only at h1 h2; omega) (fun p => by have h1 := p.1; have h2 := p.2; dsimp only at h1 h2; omega) (fun p => by have h1 := p.1; have h2 := p.2; dsimp only at h1 h2; omega)) h⟩, rfl, hs⟩⟩)
    ·
     refine O_y hs (Y_cmpT rfl rfl rfl (by omega) ?_)
     refine O_m rfl ?_
     refine O_yy 19 hs rfl rfl (Y_fieldAddr FO42_2 rfl (m := 5) rfl ?_)
     refine O_yy 19 hs rfl rfl (Y_ld 0 Tryz.isAgg3 rfl rfl rfl ?_)
     refine O_yy 19 hs rfl rfl (Y_cmpS rfl rfl rfl (fun h22 => ?_) (fun h22 => ?_))
     ·
      dsimp only [cmpP] at h22
      refine O_yy 19 hs rfl rfl (Y_move rfl ?_)
      refine O_no 23 rfl rfl ?_
      refine O_no 23 rfl rfl ?_
      refine O_no 23 rfl rfl ?_
      refine O_no 23 rfl rfl ?_
      refine O_yy 19 hs rfl rfl (Y_pickT rfl rfl ?_)
      refine O_y hs (Y_pickT rfl rfl ?_)
      refine O_m rfl ?_
      refine O_no 30 rfl rfl ?_
      refine O_no 30 rfl rfl ?_
      refine O_no 30 rfl rfl ?_
      refine O_noU 33 rfl rfl ?_
      refine O_noU 33 rfl rfl ?_
      refine O_noU 33 rfl rfl ?_
      refine O_no 30 rfl rfl ?_
      refine O_y hs (Y_pickT rfl rfl ?_)
      refine O_m rfl ?_
      refine O_no 39 rfl rfl ?_
      refine O_no 39 rfl rfl ?_
      refine O_no 39 rfl rfl ?_
      refine O_noU 42 rfl rfl ?_
      refine O_noU 42 rfl rfl ?_
      refine O_noU 42 rfl rfl ?_
      refine O_noU 42 rfl rfl ?_
      refine O_noU 46 rfl rfl ?_
      refine O_noU 46 rfl rfl ?_
      refine O_noU 46 rfl rfl ?_
      refine O_noU 46 rfl rfl ?_
      refine O_noU 42 rfl rfl ?_
      refine O_no 39 rfl rfl ?_
      refine O_y hs (Y_pickT rfl rfl ?_)
      refine O_m rfl ?_
      refine O_no 54 rfl rfl ?_
      refine O_no 54 rfl rfl ?_
      refine O_no 54 rfl rfl ?_
      refine O_noU 57 rfl rfl ?_
      refine O_noU 57 rfl rfl ?_
      refine O_noU 57 rfl rfl ?_
      refine O_no 54 rfl rfl ?_
      refine O_y hs (Y_pickT rfl rfl ?_)
      exact O_nil (⟨[(2, _), (62, _)], ⟨rfl, rfl, trivial⟩, ⟨_, _, ⟨fun _ => ops_b5 ⟨by dsimp only; omega, by dsimp only; omega⟩, fun _ => rfl⟩, rfl, hs⟩⟩)
     ·
      dsimp only [cmpP] at h22
      refine O_yy 19 hs rfl rfl (Y_move rfl ?_)
      refine O_yy 23 hs rfl rfl (Y_fieldAddr FO42_2 rfl (m := 5) rfl ?_)
      refine O_yy 23 hs rfl rfl (Y_ld 0 Tryz.isAgg3 rfl rfl rfl ?_)
      refine O_yy 23 hs rfl rfl (Y_move rfl ?_)
      refine O_yy 23 hs rfl rfl (Y_cmpS rfl rfl rfl (fun h27 => ?_) (fun h27 => ?_))
      ·
       dsimp only [cmpP] at h27
       refine O_yy 19 hs rfl rfl (Y_pickF rfl rfl ?_)
       refine O_y hs (Y_pickT rfl rfl ?_)
       refine O_m rfl ?_
       refine O_no 30 rfl rfl ?_
       refine O_no 30 rfl rfl ?_
       refine O_no 30 rfl rfl ?_
       refine O_noU 33 rfl rfl ?_
       refine O_noU 33 rfl rfl ?_
       refine O_noU 33 rfl rfl ?_
       refine O_no 30 rfl rfl ?_
       refine O_y hs (Y_pickT rfl rfl ?_)
       refine O_m rfl ?_
       refine O_no 39 rfl rfl ?_
       refine O_no 39 rfl rfl ?_
       refine O_no 39 rfl rfl ?_
       refine O_noU 42 rfl rfl ?_
       refine O_noU 42 rfl rfl ?_
       refine O_noU 42 rfl rfl ?_
       refine O_noU 42 rfl rfl ?_
       refine O_noU 46 rfl rfl ?_
       refine O_noU 46 rfl rfl ?_
       refine O_noU 46 rfl rfl ?_
       refine O_noU 46 rfl rfl ?_
       refine O_noU 42 rfl rfl ?_
       refine O_no 39 rfl rfl ?_
       refine O_y hs (Y_pickT rfl rfl ?_)
       refine O_m rfl ?_
       refine O_no 54 rfl rfl ?_
       refine O_no 54 rfl rfl ?_
       refine O_no 54 rfl rfl ?_
       refine O_noU 57 rfl rfl ?_
       refine O_noU 57 rfl rfl ?_
       refine O_noU 57 rfl rfl ?_
       refine O_no 54 rfl rfl ?_
       refine O_y hs (Y_pickT rfl rfl ?_)
       exact O_nil (⟨[(2, _), (62, _)], ⟨rfl, rfl, trivial⟩, ⟨_, _, ⟨fun _ => ops_b5 ⟨by dsimp only; omega, by dsimp only; omega⟩, fun _ => rfl⟩, rfl, hs⟩⟩)
      ·
       dsimp only [cmpP] at h27
       refine O_yy 19 hs rfl rfl (Y_pickF rfl rfl ?_)
       refine O_y hs (Y_pickT rfl rfl ?_)
       refine O_m rfl ?_
       refine O_yy 30 hs rfl rfl (Y_move rfl ?_)
       refine O_yy 30 hs rfl rfl (Y_cmpF rfl rfl rfl (by omega) ?_)
       refine O_yy 30 hs rfl rfl (Y_move rfl ?_)
       refine O_no 33 rfl rfl ?_
       refine O_no 33 rfl rfl ?_
       refine O_no 33 rfl rfl ?_
       refine O_yy 30 hs rfl rfl (Y_pickF rfl rfl ?_)
       refine O_y hs (Y_pickF rfl rfl ?_)
       refine O_m rfl ?_
       refine O_yy 39 hs rfl rfl (Y_move rfl ?_)
       refine O_yy 39 hs rfl rfl (Y_cmpT rfl rfl rfl (by omega) ?_)
       refine O_yy 39 hs rfl rfl (Y_move rfl ?_)
       refine O_yy 42 hs rfl rfl (Y_fieldAddr FO42_3 rfl (m := 6) rfl ?_)
       refine O_yy 42 hs rfl rfl (Y_ld 0 Tryz.isAgg3 rfl rfl rfl ?_)
       refine O_yy 42 hs rfl rfl (Y_cmpS rfl rfl rfl (fun h45 => ?_) (fun h45 => ?_))
       ·
        dsimp only [cmpP] at h45
        refine O_yy 42 hs rfl rfl (Y_move rfl ?_)
        refine O_no 46 rfl rfl ?_
        refine O_no 46 rfl rfl ?_
        refine O_no 46 rfl rfl ?_
        refine O_no 46 rfl rfl ?_
        refine O_yy 42 hs rfl rfl (Y_pickT rfl rfl ?_)
        refine O_yy 39 hs rfl rfl (Y_pickT rfl rfl ?_)
        refine O_y hs (Y_pickF rfl rfl ?_)
        refine O_m rfl ?_
        refine O_no 54 rfl rfl ?_
        refine O_no 54 rfl rfl ?_
        refine O_no 54 rfl rfl ?_
        refine O_noU 57 rfl rfl ?_
        refine O_noU 57 rfl rfl ?_
        refine O_noU 57 rfl rfl ?_
        refine O_no 54 rfl rfl ?_
        refine O_y hs (Y_pickT rfl rfl ?_)
        exact O_nil (⟨[(2, _), (62, _)], ⟨rfl, rfl, trivial⟩, ⟨_, _, ⟨fun _ => ops_b7 ⟨by dsimp only; omega, by dsimp only; omega⟩, fun _ => rfl⟩, rfl, hs⟩⟩)
       ·
        dsimp only [cmpP] at h45
        refine O_yy 42 hs rfl rfl (Y_move rfl ?_)
        refine O_yy 46 hs rfl rfl (Y_fieldAddr FO42_3 rfl (m := 6) rfl ?_)
        refine O_yy 46 hs rfl rfl (Y_ld 0 Tryz.isAgg3 rfl rfl rfl ?_)
        refine O_yy 46 hs rfl rfl (Y_move rfl ?_)
        refine O_yy 46 hs rfl rfl (Y_cmpS rfl rfl rfl (fun h50 => ?_) (fun h50 => ?_))
        ·
         dsimp only [cmpP] at h50
         refine O_yy 42 hs rfl rfl (Y_pickF rfl rfl ?_)
         refine O_yy 39 hs rfl rfl (Y_pickT rfl rfl ?_)
         refine O_y hs (Y_pickF rfl rfl ?_)
         refine O_m rfl ?_
         refine O_no 54 rfl rfl ?_
         refine O_no 54 rfl rfl ?_
         refine O_no 54 rfl rfl ?_
         refine O_noU 57 rfl rfl ?_
         refine O_noU 57 rfl rfl ?_
         refine O_noU 57 rfl rfl ?_
         refine O_no 54 rfl rfl ?_
         refine O_y hs (Y_pickT rfl rfl ?_)
         exact O_nil (⟨[(2, _), (62, _)], ⟨rfl, rfl, trivial⟩, ⟨_, _, ⟨fun _ => ops_b7 ⟨by dsimp only; omega, by dsimp only; omega⟩, fun _ => rfl⟩, rfl, hs⟩⟩)
        ·
         dsimp only [cmpP] at h50
         refine O_yy 42 hs rfl rfl (Y_pickF rfl rfl ?_)
         refine O_yy 39 hs rfl rfl (Y_pickT rfl rfl ?_)
         refine O_y hs (Y_pickF rfl rfl ?_)
         refine O_m rfl ?_
         refine O_yy 54 hs rfl rfl (Y_move rfl ?_)
         refine O_yy 54 hs rfl rfl (Y_cmpF rfl rfl rfl (by omega) ?_)
         refine O_yy 54 hs rfl rfl (Y_move rfl ?_)
         refine O_no 57 rfl rfl ?_
         refine O_no 57 rfl rfl ?_
         refine O_no 57 rfl rfl ?_
         refine O_yy 54 hs rfl rfl (Y_pickF rfl rfl ?_)
         refine O_y hs (Y_pickF rfl rfl ?_)
         exact O_nil (⟨[(2, _), (62, _)], ⟨rfl, rfl, trivial⟩, ⟨_, _, ⟨fun h => (by cases h), fun h => absurd (ops_all (fun p => by have h1 := p.1; have h2 := p.2; dsimp only at h1 h2; omega) (fun p => by have h1 := p.1; have h2 := p.2; dsimp only at h1 h2; omega) (fun p => by have h1 := p.1; have h2 := p.2; dsimp only at h1 h2; omega) (fun p => by have h1 := p.1; have h2 := p.2; dsimp only at h1 h2; omega)) h⟩, rfl, hs⟩⟩)
   clear hs
   intro E w hI
   obtain ⟨bj, G', hj, rfl, hs⟩ := hI
   refine T_condS rfl (fun hif => ?_) (fun hif => ?_)
   ·
    refine T_seq (T_region rfl ?_)
    refine O_a rfl ?_
    refine O_nil (T_kp [4] rfl ?_)
    refine T_ret ?_
    refine Rt_fin (vs := [_]) Tryz.results46 rfl ⟨rfl, trivial⟩ ?_
    try dsimp only [tup]
    unfold nodeE; rw [if_neg (by dsimp only; omega)]
    rw [if_pos (hj.1 hif)]
    exact ⟨_, [], hs.done, rfl, rfl⟩
   ·
    refine T_skip ?_
    refine T_seq (T_seq (T_region rfl ?_))
    refine O_y hs (Y_fieldAddr FO42_0 rfl (m := 0) rfl ?_)
    refine O_y hs (Y_ld 0 Tryz.isAgg3 rfl rfl rfl ?_)
    refine O_y hs (Y_cmpS rfl rfl rfl (fun h65 => ?_) (fun h65 => ?_))
    ·
     dsimp only [cmpP] at h65
     refine O_m rfl ?_
     refine O_yy 66 hs rfl rfl (Y_fieldAddr FO42_1 rfl (m := 1) rfl ?_)
     refine O_yy 66 hs rfl rfl (Y_ldA 0 Tryz.isAgg40 Tryz.sizeOf40 rfl rfl (vs := [_, _, _, _]) rfl rfl ?_)
     refine O_yy 66 hs rfl rfl (Y_buildA Tryz.underlying40 Tryz.sizeOf38 Tryz.zeroValue40 rfl rfl (cs := [_, _, _, _]) rfl ?_)
     refine O_yy 66 hs rfl rfl (Y_neqWS (a := [c0, c1, c2, c3]) (b := [0, 0, 0, 0]) Tryz.underlying40 Tryz.sizeOf38 Tryz.isAgg38 Tryz.underlying38 rfl rfl rfl rfl rfl hc.2 (by decide) (fun h70 => ?_) (fun h70 => ?_))
     ·
      refine O_y hs (Y_pickT rfl rfl ?_)
      refine O_nil (T_kp [2, 71] rfl ?_)
      refine T_condT rfl (T_seq (T_region rfl ?_))
      refine O_a rfl ?_
      refine O_nil (T_kp [4] rfl ?_)
      refine T_ret ?_
      refine Rt_fin (vs := [_]) Tryz.results46 rfl ⟨rfl, trivial⟩ ?_
      try dsimp only [tup]
      unfold nodeE; rw [if_neg (by dsimp only; omega)]
      rw [if_neg (not_of hj hif)]
      rw [if_pos ⟨by dsimp only; omega, h70⟩]
      exact ⟨_, [], hs.done, rfl, rfl⟩
     ·
      refine O_y hs (Y_pickT rfl rfl ?_)
      refine O_nil (T_kp [2, 71] rfl ?_)
      refine T_condF rfl (T_skip ?_)
      refine T_seq (T_seq (T_region rfl ?_))
      refine O_y hs (Y_fieldAddr FO42_0 rfl (m := 0) rfl ?_)
      refine O_y hs (Y_ld 0 Tryz.isAgg3 rfl rfl rfl ?_)
      refine O_y hs (Y_cmpS rfl rfl rfl (fun h74 => ?_) (fun h74 => ?_))
      ·
       dsimp only [cmpP] at h74
       refine O_nil (T_kp [2, 74] rfl ?_)
       refine T_condT rfl (T_seq (T_seq (T_region rfl ?_)))
       refine O_y hs (Y_fieldAddr FO42_4 rfl (m := 7) rfl ?_)
       refine O_y hs (Y_ld 0 Tryz.isAgg3 rfl rfl rfl ?_)
       refine O_y hs (Y_cmpS rfl rfl rfl (fun h77 => ?_) (fun h77 => ?_))
       ·
        dsimp only [cmpP] at h77
        refine O_m rfl ?_
        refine O_no 78 rfl rfl ?_
        refine O_no 78 rfl rfl ?_
        refine O_no 78 rfl rfl ?_
        refine O_y hs (Y_pickT rfl rfl ?_)
        refine O_nil (T_kp [82] rfl ?_)
        refine T_condT rfl (T_seq (T_region rfl ?_))
        refine O_a rfl ?_
        refine O_nil (T_kp [4] rfl ?_)
        refine T_ret ?_
        refine Rt_fin (vs := [_]) Tryz.results46 rfl ⟨rfl, trivial⟩ ?_
        try dsimp only [tup]
        unfold nodeE; rw [if_neg (by dsimp only; omega)]
        rw [if_neg (not_of hj hif)]
        rw [if_neg (fun h => h.2 h70)]
        rw [if_pos (by dsimp only; omega), if_pos (by dsimp only; omega)]
        exact ⟨_, [], hs.done, rfl, rfl⟩
       ·
        dsimp only [cmpP] at h77
        refine O_m rfl ?_
        refine O_yy 78 hs rfl rfl (Y_fieldAddr FO42_5 rfl (m := 8) rfl ?_)
        refine O_yy 78 hs rfl rfl (Y_ld 0 Tryz.isAgg3 rfl rfl rfl ?_)
        refine O_yy 78 hs rfl rfl (Y_cmpS rfl rfl rfl (fun h81 => ?_) (fun h81 => ?_))
        ·
         dsimp only [cmpP] at h81
         refine O_y hs (Y_pickF rfl rfl ?_)
         refine O_nil (T_kp [82] rfl ?_)
         refine T_condT rfl (T_seq (T_region rfl ?_))
         refine O_a rfl ?_
         refine O_nil (T_kp [4] rfl ?_)
         refine T_ret ?_
         refine Rt_fin (vs := [_]) Tryz.results46 rfl ⟨rfl, trivial⟩ ?_
         try dsimp only [tup]
         unfold nodeE; rw [if_neg (by dsimp only; omega)]
         rw [if_neg (not_of hj hif)]
         rw [if_neg (fun h => h.2 h70)]
         rw [if_pos (by dsimp only; omega), if_pos (by dsimp only; omega)]
         exact ⟨_, [], hs.done, rfl, rfl⟩
        ·
         dsimp only [cmpP] at h81
         refine O_y hs (Y_pickF rfl rfl ?_)
         refine O_nil (T_kp [82] rfl ?_)
         refine T_condF rfl (T_skip ?_)
         refine T_seq (T_region rfl ?_)
         refine O_a rfl ?_
         refine O_nil (T_kp [4] rfl ?_)
         refine T_ret ?_
         refine Rt_fin (vs := [_]) Tryz.results46 rfl ⟨rfl, trivial⟩ ?_
         try dsimp only [tup]
         unfold nodeE; rw [if_neg (by dsimp only; omega)]
         rw [if_neg (not_of hj hif)]
         rw [if_neg (fun h => h.2 h70)]
         rw [if_pos (by dsimp only; omega), if_neg (by dsimp only; omega)]
         exact ⟨_, [], hs.done, rfl, rfl⟩
      ·
       dsimp only [cmpP] at h74
       refine O_nil (T_kp [2, 74] rfl ?_)
       refine T_condF rfl (T_skip ?_)
       refine T_seq (T_seq (T_region rfl ?_))
       refine O_y hs (Y_fieldAddr FO42_4 rfl (m := 7) rfl ?_)
       refine O_y hs (Y_ld 0 Tryz.isAgg3 rfl rfl rfl ?_)
       refine O_y hs (Y_cmpS rfl rfl rfl (fun h85 => ?_) (fun h85 => ?_))
       ·
        dsimp only [cmpP] at h85
        refine O_m rfl ?_
        refine O_no 86 rfl rfl ?_
        refine O_no 86 rfl rfl ?_
        refine O_no 86 rfl rfl ?_
        refine O_y hs (Y_pickT rfl rfl ?_)
        refine O_nil (T_kp [2, 90] rfl ?_)
        refine T_condT rfl (T_seq (T_region rfl ?_))
        refine O_a rfl ?_
        refine O_nil (T_kp [4] rfl ?_)
        refine T_ret ?_
        refine Rt_fin (vs := [_]) Tryz.results46 rfl ⟨rfl, trivial⟩ ?_
        try dsimp only [tup]
        unfold nodeE; rw [if_neg (by dsimp only; omega)]
        rw [if_neg (not_of hj hif)]
        rw [if_neg (fun h => h.2 h70)]
        rw [if_neg (by dsimp only; omega)]
        rw [if_pos (by dsimp only; omega)]
        exact ⟨_, [], hs.done, rfl, rfl⟩
       ·
        dsimp only [cmpP] at h85
        refine O_m rfl ?_
        refine O_yy 86 hs rfl rfl (Y_fieldAddr FO42_5 rfl (m := 8) rfl ?_)
        refine O_yy 86 hs rfl rfl (Y_ld 0 Tryz.isAgg3 rfl rfl rfl ?_)
        refine O_yy 86 hs rfl rfl (Y_cmpS rfl rfl rfl (fun h89 => ?_) (fun h89 => ?_))
        ·
         dsimp only [cmpP] at h89
         refine O_y hs (Y_pickF rfl rfl ?_)
         refine O_nil (T_kp [2, 90] rfl ?_)
         refine T_condT rfl (T_seq (T_region rfl ?_))
         refine O_a rfl ?_
         refine O_nil (T_kp [4] rfl ?_)
         refine T_ret ?_
         refine Rt_fin (vs := [_]) Tryz.results46 rfl ⟨rfl, trivial⟩ ?_
         try dsimp only [tup]
         unfold nodeE; rw [if_neg (by dsimp only; omega)]
         rw [if_neg (not_of hj hif)]
         rw [if_neg (fun h => h.2 h70)]
         rw [if_neg (by dsimp only; omega)]
         rw [if_pos (by dsimp only; omega)]
         exact ⟨_, [], hs.done, rfl, rfl⟩
        ·
         dsimp only [cmpP] at h89
         refine O_y hs (Y_pickF rfl rfl ?_)
         refine O_nil (T_kp [2, 90] rfl ?_)
         refine T_condF rfl (T_skip ?_)
         refine T_seq (T_seq (T_region rfl ?_))
         refine O_y hs (Y_fieldAddr FO42_4 rfl (m := 7) rfl ?_)
         refine O_y hs (Y_ld 0 Tryz.isAgg3 rfl rfl rfl ?_)
         refine O_y hs (Y_cmpS rfl rfl rfl (fun h93 => ?_) (fun h93 => ?_))
         ·
          dsimp only [cmpP] at h93
          refine O_m rfl ?_
          refine O_no 94 rfl rfl ?_
          refine O_no 94 rfl rfl ?_
          refine O_no 94 rfl rfl ?_
          refine O_y hs (Y_pickT rfl rfl ?_)
          refine O_nil (T_kp [2, 98] rfl ?_)
          refine T_condT rfl (T_seq (T_region rfl ?_))
          refine O_a rfl ?_
          refine O_nil (T_kp [4] rfl ?_)
          refine T_ret ?_
          refine Rt_fin (vs := [_]) Tryz.results46 rfl ⟨rfl, trivial⟩ ?_
          try dsimp only [tup]
          unfold nodeE; rw [if_neg (by dsimp only; omega)]
          rw [if_neg (not_of hj hif)]
          rw [if_neg (fun h => h.2 h70)]
          rw [if_neg (by dsimp only; omega)]
          rw [if_neg (by dsimp only; omega)]
          rw [if_pos (by dsimp only; omega)]
          exact ⟨_, [], hs.done, rfl, rfl⟩
         ·
          dsimp only [cmpP] at h93
          refine O_m rfl ?_
          refine O_yy 94 hs rfl rfl (Y_fieldAddr FO42_5 rfl (m := 8) rfl ?_)
          refine O_yy 94 hs rfl rfl (Y_ld 0 Tryz.isAgg3 rfl rfl rfl ?_)
          refine O_yy 94 hs rfl rfl (Y_cmpS rfl rfl rfl (fun h97 => ?_) (fun h97 => ?_))
          ·
           dsimp only [cmpP] at h97
           refine O_y hs (Y_pickF rfl rfl ?_)
           refine O_nil (T_kp [2, 98] rfl ?_)
           refine T_condT rfl (T_seq (T_region rfl ?_))
           refine O_a rfl ?_
           refine O_nil (T_kp [4] rfl ?_)
           refine T_ret ?_
           refine Rt_fin (vs := [_]) Tryz.results46 rfl ⟨rfl, trivial⟩ ?_
           try dsimp only [tup]
           unfold nodeE; rw [if_neg (by dsimp only; omega)]
           rw [if_neg (not_of hj hif)]
           rw [if_neg (fun h => h.2 h70)]
           rw [if_neg (by dsimp only; omega)]
           rw [if_neg (by dsimp only; omega)]
           rw [if_pos (by dsimp only; omega)]
           exact ⟨_, [], hs.done, rfl, rfl⟩
          ·
           dsimp only [cmpP] at h97
           refine O_y hs (Y_pickF rfl rfl ?_)
           refine O_nil (T_kp [2, 98] rfl ?_)
           refine T_condF rfl (T_skip ?_)
           refine T_seq (T_seq (T_region rfl ?_))
           refine O_y hs (Y_fieldAddr FO42_5 rfl (m := 8) rfl ?_)
           refine O_y hs (Y_ld 0 Tryz.isAgg3 rfl rfl rfl ?_)
           refine O_y hs (Y_cmpS rfl rfl rfl (fun h101 => ?_) (fun h101 => ?_))
           ·
            dsimp only [cmpP] at h101
            refine O_m rfl ?_
            refine O_yy 102 hs rfl rfl (Y_fieldAddr FO42_5 rfl (m := 8) rfl ?_)
            refine O_yy 102 hs rfl rfl (Y_ld 0 Tryz.isAgg3 rfl rfl rfl ?_)
            refine O_yy 102 hs rfl rfl (Y_fieldAddr FO42_4 rfl (m := 7) rfl ?_)
            refine O_yy 102 hs rfl rfl (Y_ld 0 Tryz.isAgg3 rfl rfl rfl ?_)
            refine O_yy 102 hs rfl rfl (Y_cmpS rfl rfl rfl (fun h107 => ?_) (fun h107 => ?_))
            ·
             dsimp only [cmpP] at h107
             refine O_y hs (Y_pickT rfl rfl ?_)
             refine O_nil (T_kp [108] rfl ?_)
             refine T_condT rfl (T_seq (T_region rfl ?_))
             refine O_a rfl ?_
             refine O_nil (T_kp [4] rfl ?_)
             refine T_ret ?_
             refine Rt_fin (vs := [_]) Tryz.results46 rfl ⟨rfl, trivial⟩ ?_
             try dsimp only [tup]
             unfold nodeE; rw [if_neg (by dsimp only; omega)]
             rw [if_neg (not_of hj hif)]
             rw [if_neg (fun h => h.2 h70)]
             rw [if_neg (by dsimp only; omega)]
             rw [if_neg (by dsimp only; omega)]
             rw [if_neg (by dsimp only; omega)]
             rw [if_pos (by dsimp only; omega)]
             exact ⟨_, [], hs.done, rfl, rfl⟩
            ·
             dsimp only [cmpP] at h107
             refine O_y hs (Y_pickT rfl rfl ?_)
             refine O_nil (T_kp [108] rfl ?_)
             refine T_condF rfl (T_skip ?_)
             refine T_seq (T_region rfl ?_)
             refine O_a rfl ?_
             refine O_nil (T_kp [4] rfl ?_)
             refine T_ret ?_
             refine Rt_fin (vs := [_]) Tryz.results46 rfl ⟨rfl, trivial⟩ ?_
             try dsimp only [tup]
             unfold nodeE; rw [if_neg (by dsimp only; omega)]
             rw [if_neg (not_of hj hif)]
             rw [if_neg (fun h => h.2 h70)]
             rw [if_neg (by dsimp only; omega)]
             rw [if_neg (by dsimp only; omega)]
             rw [if_neg (by dsimp only; omega)]
             rw [if_neg (by dsimp only; omega)]
             exact ⟨_, [], hs.done, rfl, rfl⟩
           ·
            dsimp only [cmpP] at h101
            refine O_m rfl ?_
            refine O_no 102 rfl rfl ?_
            refine O_no 102 rfl rfl ?_
            refine O_no 102 rfl rfl ?_
            refine O_no 102 rfl rfl ?_
            refine O_no 102 rfl rfl ?_
            refine O_y hs (Y_pickF rfl rfl ?_)
            refine O_nil (T_kp [108] rfl ?_)
            refine T_condF rfl (T_skip ?_)
            refine T_seq (T_region rfl ?_)
            refine O_a rfl ?_
            refine O_nil (T_kp [4] rfl ?_)
            refine T_ret ?_
            refine Rt_fin (vs := [_]) Tryz.results46 rfl ⟨rfl, trivial⟩ ?_
            try dsimp only [tup]
            unfold nodeE; rw [if_neg (by dsimp only; omega)]
            rw [if_neg (not_of hj hif)]
            rw [if_neg (fun h => h.2 h70)]
            rw [if_neg (by dsimp only; omega)]
            rw [if_neg (by dsimp only; omega)]
            rw [if_neg (by dsimp only; omega)]
            rw [if_neg (by dsimp only; omega)]
            exact ⟨_, [], hs.done, rfl, rfl⟩
    ·
     dsimp only [cmpP] at h65
     refine O_m rfl ?_
     refine O_no 66 rfl rfl ?_
     refine O_no 66 rfl rfl ?_
     refine O_no 66 rfl rfl ?_
     refine O_no 66 rfl rfl ?_
     refine O_y hs (Y_pickF rfl rfl ?_)
     refine O_nil (T_kp [2, 71] rfl ?_)
     refine T_condF rfl (T_skip ?_)
     refine T_seq (T_seq (T_region rfl ?_))
     refine O_y hs (Y_fieldAddr FO42_0 rfl (m := 0) rfl ?_)
     refine O_y hs (Y_ld 0 Tryz.isAgg3 rfl rfl rfl ?_)
     refine O_y hs (Y_cmpS rfl rfl rfl (fun h74 => ?_) (fun h74 => ?_))
     ·
      dsimp only [cmpP] at h74
      refine O_nil (T_kp [2, 74] rfl ?_)
      refine T_condT rfl (T_seq (T_seq (T_region rfl ?_)))
      refine O_y hs (Y_fieldAddr FO42_4 rfl (m := 7) rfl ?_)
      refine O_y hs (Y_ld 0 Tryz.isAgg3 rfl rfl rfl ?_)
      refine O_y hs (Y_cmpS rfl rfl rfl (fun h77 => ?_) (fun h77 => ?_))
      ·
       dsimp only [cmpP] at h77
       refine O_m rfl ?_
       refine O_no 78 rfl rfl ?_
       refine O_no 78 rfl rfl ?_
       refine O_no 78 rfl rfl ?_
       refine O_y hs (Y_pickT rfl rfl ?_)
       refine O_nil (T_kp [82] rfl ?_)
       refine T_condT rfl (T_seq (T_region rfl ?_))
       refine O_a rfl ?_
       refine O_nil (T_kp [4] rfl ?_)
       refine T_ret ?_
       refine Rt_fin (vs := [_]) Tryz.results46 rfl ⟨rfl, trivial⟩ ?_
       try dsimp only [tup]
       unfold nodeE; rw [if_neg (by dsimp only; omega)]
       rw [if_neg (not_of hj hif)]
       rw [if_neg (fun h => absurd h.1 (by dsimp only; omega))]
       rw [if_pos (by dsimp only; omega), if_pos (by dsimp only; omega)]
       exact ⟨_, [], hs.done, rfl, rfl⟩
      ·
       dsimp only [cmpP] at h77
       refine O_m rfl ?_
       refine O_yy 78 hs rfl rfl (Y_fieldAddr FO42_5 rfl (m := 8) rfl ?_)
       refine O_yy 78 hs rfl rfl (Y_ld 0 Tryz.isAgg3 rfl rfl rfl ?_)
       refine O_yy 78 hs rfl rfl (Y_cmpS rfl rfl rfl (fun h81 => ?_) (fun h81 => ?_))
       ·
        dsimp only [cmpP] at h81
        refine O_y hs (Y_pickF rfl rfl ?_)
        refine O_nil (T_kp [82] rfl ?_)
        refine T_condT rfl (T_seq (T_region rfl ?_))
        refine O_a rfl ?_
        refine O_nil (T_kp [4] rfl ?_)
        refine T_ret ?_
        refine Rt_fin (vs := [_]) Tryz.results46 rfl ⟨rfl, trivial⟩ ?_
        try dsimp only [tup]
        unfold nodeE; rw [if_neg (by dsimp only; omega)]
        rw [if_neg (not_of hj hif)]
        rw [if_neg (fun h => absurd h.1 (by dsimp only; omega))]
        rw [if_pos (by dsimp only; omega), if_pos (by dsimp only; omega)]
        exact ⟨_, [], hs.done, rfl, rfl⟩
       ·
        dsimp only [cmpP] at h81
        refine O_y hs (Y_pickF rfl rfl ?_)
        refine O_nil (T_kp [82] rfl ?_)
        refine T_condF rfl (T_skip ?_)
        refine T_seq (T_region rfl ?_)
        refine O_a rfl ?_
        refine O_nil (T_kp [4] rfl ?_)
        refine T_ret ?_
        refine Rt_fin (vs := [_]) Tryz.results46 rfl ⟨rfl, trivial⟩ ?_
        try dsimp only [tup]
        unfold nodeE; rw [if_neg (by dsimp only; omega)]
        rw [if_neg (not_of hj hif)]
        rw [if_neg (fun h => absurd h.1 (by dsimp only; omega))]
        rw [if_pos (by dsimp only; omega), if_neg (by dsimp only; omega)]
        exact ⟨_, [], hs.done, rfl, rfl⟩
     ·
      dsimp only [cmpP] at h74
      refine O_nil (T_kp [2, 74] rfl ?_)
      refine T_condF rfl (T_skip ?_)
      refine T_seq (T_seq (T_region rfl ?_))
      refine O_y hs (Y_fieldAddr FO42_4 rfl (m := 7) rfl ?_)
      refine O_y hs (Y_ld 0 Tryz.isAgg3 rfl rfl rfl ?_)
      refine O_y hs (Y_cmpS rfl rfl rfl (fun h85 => ?_) (fun h85 => ?_))
      ·
       dsimp only [cmpP] at h85
       refine O_m rfl ?_
       refine O_no 86 rfl rfl ?_
       refine O_no 86 rfl rfl ?_
       refine O_no 86 rfl rfl ?_
       refine O_y hs (Y_pickT rfl rfl ?_)
       refine O_nil (T_kp [2, 90] rfl ?_)
       refine T_condT rfl (T_seq (T_region rfl ?_))
       refine O_a rfl ?_
       refine O_nil (T_kp [4] rfl ?_)
       refine T_ret ?_
       refine Rt_fin (vs := [_]) Tryz.results46 rfl ⟨rfl, trivial⟩ ?_
       try dsimp only [tup]
       unfold nodeE; rw [if_neg (by dsimp only; omega)]
       rw [if_neg (not_of hj hif)]
       rw [if_neg (fun h => absurd h.1 (by dsimp only; omega))]
       rw [if_neg (by dsimp only; omega)]
       rw [if_pos (by dsimp only; omega)]
       exact ⟨_, [], hs.done, rfl, rfl⟩
      ·
       dsimp only [cmpP] at h85
       refine O_m rfl ?_
       refine O_yy 86 hs rfl rfl (Y_fieldAddr FO42_5 rfl (m := 8) rfl ?_)
       refine O_yy 86 hs rfl rfl (Y_ld 0 Tryz.isAgg3 rfl rfl rfl ?_)
       refine O_yy 86 hs rfl rfl (Y_cmpS rfl rfl rfl (fun h89 => ?_) (fun h89 => ?_))
       ·
        dsimp only [cmpP] at h89
        refine O_y hs (Y_pickF rfl rfl ?_)
        refine O_nil (T_kp [2, 90] rfl ?_)
        refine T_condT rfl (T_seq (T_region rfl ?_))
        refine O_a rfl ?_
        refine O_nil (T_kp [4] rfl ?_)
        refine T_ret ?_
        refine Rt_fin (vs := [_]) Tryz.results46 rfl ⟨rfl, trivial⟩ ?_
        try dsimp only [tup]
        unfold nodeE; rw [if_neg (by dsimp only; omega)]
        rw [if_neg (not_of hj hif)]
        rw [if_neg (fun h => absurd h.1 (by dsimp only; omega))]
        rw [if_neg (by dsimp only; omega)]
        rw [if_pos (by dsimp only; omega)]
        exact ⟨_, [], hs.done, rfl, rfl⟩
       ·
        dsimp only [cmpP] at h89
        refine O_y hs (Y_pickF rfl rfl ?_)
        refine O_nil (T_kp [2, 90] rfl ?_)
        refine T_condF rfl (T_skip ?_)
        refine T_seq (T_seq (T_region rfl ?_))
        refine O_y hs (Y_fieldAddr FO42_4 rfl (m := 7) rfl ?_)
        refine O_y hs (Y_ld 0 Tryz.isAgg3 rfl rfl rfl ?_)
        refine O_y hs (Y_cmpS rfl rfl rfl (fun h93 => ?_) (fun h93 => ?_))
        ·
         dsimp only [cmpP] at h93
         refine O_m rfl ?_
         refine O_no 94 rfl rfl ?_
         refine O_no 94 rfl rfl ?_
         refine O_no 94 rfl rfl ?_
         refine O_y hs (Y_pickT rfl rfl ?_)
         refine O_nil (T_kp [2, 98] rfl ?_)
         refine T_condT rfl (T_seq (T_region rfl ?_))
         refine O_a rfl ?_
         refine O_nil (T_kp [4] rfl ?_)
         refine T_ret ?_
         refine Rt_fin (vs := [_]) Tryz.results46 rfl ⟨rfl, trivial⟩ ?_
         try dsimp only [tup]
         unfold nodeE; rw [if_neg (by dsimp only; omega)]
         rw [if_neg (not_of hj hif)]
         rw [if_neg (fun h => absurd h.1 (by dsimp only; omega))]
         rw [if_neg (by dsimp only; omega)]
         rw [if_neg (by dsimp only; omega)]
         rw [if_pos (by dsimp only; omega)]
         exact ⟨_, [], hs.done, rfl, rfl⟩
        ·
         dsimp only [cmpP] at h93
         refine O_m rfl ?_
         refine O_yy 94 hs rfl rfl (Y_fieldAddr FO42_5 rfl (m := 8) rfl ?_)
         refine O_yy 94 hs rfl rfl (Y_ld 0 Tryz.isAgg3 rfl rfl rfl ?_)
         refine O_yy 94 hs rfl rfl (Y_cmpS rfl rfl rfl (fun h97 => ?_) (fun h97 => ?_))
         ·
          dsimp only [cmpP] at h97
          refine O_y hs (Y_pickF rfl rfl ?_)
          refine O_nil (T_kp [2, 98] rfl ?_)
          refine T_condT rfl (T_seq (T_region rfl ?_))
          refine O_a rfl ?_
          refine O_nil (T_kp [4] rfl ?_)
          refine T_ret ?_
          refine Rt_fin (vs := [_]) Tryz.results46 rfl ⟨rfl, trivial⟩ ?_
          try dsimp only [tup]
          unfold nodeE; rw [if_neg (by dsimp only; omega)]
          rw [if_neg (not_of hj hif)]
          rw [if_neg (fun h => absurd h.1 (by dsimp only; omega))]
          rw [if_neg (by dsimp only; omega)]
          rw [if_neg (by dsimp only; omega)]
          rw [if_pos (by dsimp only; omega)]
          exact ⟨_, [], hs.done, rfl, rfl⟩
         ·
          dsimp only [cmpP] at h97
          refine O_y hs (Y_pickF rfl rfl ?_)
          refine O_nil (T_kp [2, 98] rfl ?_)
          refine T_condF rfl (T_skip ?_)
          refine T_seq (T_seq (T_region rfl ?_))
          refine O_y hs (Y_fieldAddr FO42_5 rfl (m := 8) rfl ?_)
          refine O_y hs (Y_ld 0 Tryz.isAgg3 rfl rfl rfl ?_)
          refine O_y hs (Y_cmpS rfl rfl rfl (fun h101 => ?_) (fun h101 => ?_))
          ·
           dsimp only [cmpP] at h101
           refine O_m rfl ?_
           refine O_yy 102 hs rfl rfl (Y_fieldAddr FO42_5 rfl (m := 8) rfl ?_)
           refine O_yy 102 hs rfl rfl (Y_ld 0 Tryz.isAgg3 rfl rfl rfl ?_)
           refine O_yy 102 hs rfl rfl (Y_fieldAddr FO42_4 rfl (m := 7) rfl ?_)
           refine O_yy 102 hs rfl rfl (Y_ld 0 Tryz.isAgg3 rfl rfl rfl ?_)
           refine O_yy 102 hs rfl rfl (Y_cmpS rfl rfl rfl (fun h107 => ?_) (fun h107 => ?_))
           ·
            dsimp only [cmpP] at h107
            refine O_y hs (Y_pickT rfl rfl ?_)
            refine O_nil (T_kp [108] rfl ?_)
            refine T_condT rfl (T_seq (T_region rfl ?_))
            refine O_a rfl ?_
            refine O_nil (T_kp [4] rfl ?_)
            refine T_ret ?_
            refine Rt_fin (vs := [_]) Tryz.results46 rfl ⟨rfl, trivial⟩ ?_
            try dsimp only [tup]
            unfold nodeE; rw [if_neg (by dsimp only; omega)]
            rw [if_neg (not_of hj hif)]
            rw [if_neg (fun h => absurd h.1 (by dsimp only; omega))]
            rw [if_neg (by dsimp only; omega)]
            rw [if_neg (by dsimp only; omega)]
            rw [if_neg (by dsimp only; omega)]
            rw [if_pos (by dsimp only; omega)]
            exact ⟨_, [], hs.done, rfl, rfl⟩
           ·
            dsimp only [cmpP] at h107
            refine O_y hs (Y_pickT rfl rfl ?_)
            refine O_nil (T_kp [108] rfl ?_)
            refine T_condF rfl (T_skip ?_)
            refine T_seq (T_region rfl ?_)
            refine O_a rfl ?_
            refine O_nil (T_kp [4] rfl ?_)
            refine T_ret ?_
            refine Rt_fin (vs := [_]) Tryz.results46 rfl ⟨rfl, trivial⟩ ?_
            try dsimp only [tup]
            unfold nodeE; rw [if_neg (by dsimp only; omega)]
            rw [if_neg (not_of hj hif)]
            rw [if_neg (fun h => absurd h.1 (by dsimp only; omega))]
            rw [if_neg (by dsimp only; omega)]
            rw [if_neg (by dsimp only; omega)]
            rw [if_neg (by dsimp only; omega)]
            rw [if_neg (by dsimp only; omega)]
            exact ⟨_, [], hs.done, rfl, rfl⟩
          ·
           dsimp only [cmpP] at h101
           refine O_m rfl ?_
           refine O_no 102 rfl rfl ?_
           refine O_no 102 rfl rfl ?_
           refine O_no 102 rfl rfl ?_
           refine O_no 102 rfl rfl ?_
           refine O_no 102 rfl rfl ?_
           refine O_y hs (Y_pickF rfl rfl ?_)
           refine O_nil (T_kp [108] rfl ?_)
           refine T_condF rfl (T_skip ?_)
           refine T_seq (T_region rfl ?_)
           refine O_a rfl ?_
           refine O_nil (T_kp [4] rfl ?_)
           refine T_ret ?_
           refine Rt_fin (vs := [_]) Tryz.results46 rfl ⟨rfl, trivial⟩ ?_
           try dsimp only [tup]
           unfold nodeE; rw [if_neg (by dsimp only; omega)]
           rw [if_neg (not_of hj hif)]
           rw [if_neg (fun h => absurd h.1 (by dsimp only; omega))]
           rw [if_neg (by dsimp only; omega)]
           rw [if_neg (by dsimp only; omega)]
           rw [if_neg (by dsimp only; omega)]
           rw [if_neg (by dsimp only; omega)]
           exact ⟨_, [], hs.done, rfl, rfl⟩

set_option maxHeartbeats 2000000 in
set_option maxRecDepth 10000 in
theorem rvalid_ok {G : Ghost} {v : Value} {l : List NodeV} (hx : Rx G v l) (hl : l.length ≤ 1000000000) :
  FnOk Tryz.prog 25 [v] G [] fun r _ H' => H' = [] ∧ r = .int .i64 (validF l) := by
 obtain ⟨A, cap, rfl⟩ := LstR.slice hx
 refine FnOk.of_T [(0, _)] Tryz.func25 rfl Tryz.ntmps25 (by simp) rfl fun w0 hs => ?_
 have hx0 := hx
 refine T_seq (T_region rfl ?_)
 refine O_a rfl ?_
 refine O_nil (T_kp [0] rfl ?_)
 refine T_seq (T_seq (T_region rfl ?_))
 refine O_m rfl ?_
 refine O_y hs (Y_len Tryz.underlying24 rfl ?_)
 refine O_y hs (Y_cmpS rfl rfl rfl (fun h10 => ?_) (fun h10 => ?_))
 ·
  dsimp only [cmpP] at h10
  refine O_nil (T_kp [0, 10] rfl ?_)
  refine T_condT rfl (T_seq (T_region rfl ?_))
  refine O_a rfl ?_
  refine O_nil (T_kp [2] rfl ?_)
  refine T_ret ?_
  refine Rt_fin (vs := [_]) Tryz.results25 rfl ⟨rfl, trivial⟩ ?_
  try dsimp only [tup]
  rw [valid_big (by omega)]
  exact ⟨_, [], hs.done, rfl, rfl⟩
 ·
  dsimp only [cmpP] at h10
  refine O_nil (T_kp [0, 10] rfl ?_)
  refine T_condF rfl (T_skip ?_)
  refine T_seq (T_seq (T_region rfl ?_))
  refine O_m rfl ?_
  refine O_y hs (Y_len Tryz.underlying24 rfl ?_)
  refine O_y hs (Y_cmpS rfl rfl rfl (fun h13 => ?_) (fun h13 => ?_))
  ·
   dsimp only [cmpP] at h13
   refine O_nil (T_kp [0, 13] rfl ?_)
   refine T_condT rfl (T_seq (T_region rfl ?_))
   refine O_a rfl ?_
   refine O_nil (T_kp [2] rfl ?_)
   refine T_ret ?_
   refine Rt_fin (vs := [_]) Tryz.results25 rfl ⟨rfl, trivial⟩ ?_
   try dsimp only [tup]
   rw [valid_nil (by omega)]
   exact ⟨_, [], hs.done, rfl, rfl⟩
  ·
   dsimp only [cmpP] at h13
   refine O_nil (T_kp [0, 13] rfl ?_)
   refine T_condF rfl (T_skip ?_)
   refine T_seq (T_region rfl ?_)
   refine O_m rfl ?_
   refine O_y hs (Y_len Tryz.underlying24 rfl ?_)
   refine O_s (S_make (n := l.length) (m := l.length) hs Tryz.underlying66 TI3 rfl rfl rfl (by omega) (by omega) (by omega) fun b16 _ hs => ?_)
   refine O_a rfl ?_
   refine O_nil (T_kp [0, 3] rfl ?_)
   refine T_seq (T_seq (T_region rfl ?_))
   refine O_a rfl ?_
   refine O_nil (T_kp [0, 3, 4] rfl ?_)
   refine T_block (T_loop (fun m E w => ∃ (k : Nat) (cs : List Nat) (G' : Ghost), k ≤ l.length ∧ cs = (l.take k).foldl stepC (List.replicate l.length 0) ∧ errF 0 l = errF k (l.drop k) ∧ cs.length = l.length ∧ (∀ x ∈ cs, x ≤ 2 * k) ∧ m = l.length - k ∧ E = ⟨[], [(0, (.slice A l.length cap)), (3, .slice (some ⟨b16, 0, none⟩) l.length l.length), (4, .int .i64 (k : Int))]⟩ ∧ St ⟨w0, G, feet []⟩ G' [.row 3 1 (.slice (some ⟨b16, 0, none⟩) l.length l.length) l.length (cs.map natV)] w) (L := [(0, _), (3, _), (4, _)]) ⟨rfl, rfl, rfl, trivial⟩ (⟨0, List.replicate l.length 0, _, by omega, rfl, rfl, by simp, fun x hx => by rw [List.eq_of_mem_replicate hx]; exact Nat.zero_le _, rfl, rfl, by rw [List.map_replicate]; exact hs⟩) fun m E w hI => ?_)
   obtain ⟨k, cs, G', hk, hcs, herr, hcl, hcb, rfl, rfl, hs⟩ := hI
   have hx := hx0.mono hs.le
   refine T_seq (T_seq (T_region rfl ?_))
   refine O_m rfl ?_
   refine O_m rfl ?_
   refine O_y hs (Y_len Tryz.underlying24 rfl ?_)
   refine O_y hs (Y_cmpS rfl rfl rfl (fun h20 => ?_) (fun h20 => ?_))
   ·
    dsimp only [cmpP] at h20
    refine O_nil (T_kp [0, 3, 4, 20] rfl ?_)
    refine T_condT rfl (T_skip ?_)
    refine T_seq (T_block (T_seq (T_region rfl ?_)))
    refine O_m rfl ?_
    refine O_m rfl ?_
    refine O_y hs (Y_idxS hx k Tryz.underlying24 Tryz.sizeOf42 rfl rfl rfl (by omega) fun p25 c25 hp25 hc25 hR25 => ?_)
    obtain ⟨rfl, hco⟩ := hR25
    obtain ⟨nk, hnk⟩ : ∃ n, n = l[k] := ⟨_, rfl⟩
    rw [← hnk] at hp25 hco
    obtain ⟨kd, cc, ll, rr, mn, mx⟩ := nk
    obtain ⟨c0, c1, c2, c3, rfl⟩ := four_of hco.1
    refine O_y hs (Y_ldAG (vs := [.int .i64 kd, u64V c0, u64V c1, u64V c2, u64V c3, .int .i64 ll, .int .i64 rr, .int .i64 mn, .int .i64 mx]) Tryz.isAgg42 Tryz.sizeOf42 rfl hp25 rfl ?_)
    refine O_m rfl ?_
    refine O_s (S_call (H1 := []) hs rfl Tryz.func46 rfl (by kernel_rfl) (rnodev_ok (n := ⟨kd, [c0, c1, c2, c3], ll, rr, mn, mx⟩) (i := k) hco) fun v1 G' H' _ hR hG28 hs => ?_)
    obtain ⟨rfl, rfl⟩ := hR
    replace hs : St _ _ [_] _ := hs
    replace hx := hx.mono hG28
    refine O_a rfl ?_
    refine O_nil (T_kp [0, 3, 4, 5] rfl ?_)
    refine T_seq (T_seq (T_region rfl ?_))
    refine O_m rfl ?_
    refine O_y hs (Y_cmpS rfl rfl rfl (fun h30 => ?_) (fun h30 => ?_))
    ·
     dsimp only [cmpP] at h30
     refine O_nil (T_kp [0, 3, 4, 5, 30] rfl ?_)
     refine T_condT rfl (T_seq (T_region rfl ?_))
     refine O_m rfl ?_
     refine O_a rfl ?_
     refine O_nil (T_kp [2] rfl ?_)
     refine T_ret ?_
     refine Rt_fin (vs := [_]) Tryz.results25 rfl ⟨rfl, trivial⟩ ?_
     try dsimp only [tup]
     have he := errF_bad (l := l) (k := k) (by omega) (by rw [← hnk]; exact h30)
     rw [valid_err (by omega) (by omega) (by rw [herr, he, ← hnk]; exact h30), herr, he, ← hnk]
     exact ⟨_, [], hs.done, rfl, rfl⟩
    ·
     dsimp only [cmpP] at h30
     refine O_nil (T_kp [0, 3, 4, 5, 30] rfl ?_)
     refine T_condF rfl (T_skip ?_)
     have hne : nodeE ⟨kd, [c0, c1, c2, c3], ll, rr, mn, mx⟩ k = 0 := by omega
     have ha3 := arF_three kd
     refine T_seq (T_region rfl ?_)
     refine O_m rfl ?_
     refine O_m rfl ?_
     refine O_y hs (Y_idxS hx k Tryz.underlying24 Tryz.sizeOf42 rfl rfl rfl (by omega) fun p34 c34 hp34 hc34 hR34 => ?_)
     obtain ⟨hcc34, _⟩ := hR34
     rw [← hnk] at hcc34
     subst hcc34
     refine O_y hs (Y_fieldAddrP FO42_0 rfl ?_)
     refine O_y hs (Y_ldG Tryz.isAgg3 rfl (hp34 0 (.int .i64 kd) rfl) ?_)
     refine O_s (S_call (H1 := []) hs rfl Tryz.func41 rfl (by kernel_rfl) (rops_ok) fun v2 G' H' _ hR hG37 hs => ?_)
     obtain ⟨rfl, rfl⟩ := hR
     replace hs : St _ _ [_] _ := hs
     replace hx := hx.mono hG37
     refine O_a rfl ?_
     refine O_nil (T_kp [0, 3, 4, 6] rfl ?_)
     refine T_seq (T_seq (T_region rfl ?_))
     refine O_m rfl ?_
     refine O_y hs (Y_cmpS rfl rfl rfl (fun h39 => ?_) (fun h39 => ?_))
     ·
      dsimp only [cmpP] at h39
      refine O_nil (T_kp [0, 3, 4, 6, 39] rfl ?_)
      have hop := ops_l (nodeE_ops hne) (by dsimp only; omega)
      dsimp only at hop
      obtain ⟨L, rfl⟩ : ∃ L : Nat, ll = (L : Int) := Int.eq_ofNat_of_zero_le hop.1
      have hL : L < cs.length := by omega
      refine T_condT rfl (T_region rfl ?_)
      refine O_m rfl ?_
      refine O_m rfl ?_
      refine O_m rfl ?_
      refine O_y hs (Y_idxS hx k Tryz.underlying24 Tryz.sizeOf42 rfl rfl rfl (by omega) fun p43 c43 hp43 hc43 hR43 => ?_)
      obtain ⟨hcc43, _⟩ := hR43
      rw [← hnk] at hcc43
      subst hcc43
      refine O_y hs (Y_fieldAddrP FO42_2 rfl ?_)
      refine O_y hs (Y_ldG Tryz.isAgg3 rfl (hp43 5 (.int .i64 (L : Int)) rfl) ?_)
      refine O_y hs (Y_idxRow (L) Tryz.underlying66 Tryz.sizeOf3 rfl rfl rfl (by omega) ?_)
      refine O_y hs (Y_ldRow 0 rfl Tryz.isAgg3 rfl (by rw [List.getElem?_map, List.getElem?_eq_getElem hL]; rfl) ?_)
      refine O_y hs (Y_add (c := ((cs[L]'hL + 1 : Nat) : Int)) rfl rfl (by omega) (by have := hcb _ (List.getElem_mem hL); omega) ?_)
      refine O_y hs (Y_idxRow (L) Tryz.underlying66 Tryz.sizeOf3 rfl rfl rfl (by omega) ?_)
      refine O_n (S_stRow hs Tryz.sizeOf3 rfl rfl rfl (by omega) fun _ hs => ?_)
      refine O_nil (T_kp [0, 3, 4, 6] rfl ?_)
      rw [set_mod hL] at hs
      refine T_seq (T_region rfl ?_)
      refine O_m rfl ?_
      refine O_y hs (Y_cmpS rfl rfl rfl (fun h51 => ?_) (fun h51 => ?_))
      ·
       dsimp only [cmpP] at h51
       refine O_nil (T_kp [0, 3, 4, 51] rfl ?_)
       have hop2 := ops_r (nodeE_ops hne) (by dsimp only; omega)
       dsimp only at hop2
       obtain ⟨R, rfl⟩ : ∃ R : Nat, rr = (R : Int) := Int.eq_ofNat_of_zero_le hop2.1
       have hR : R < (cs.modify L (· + 1)).length := by rw [List.length_modify]; omega
       refine T_condT rfl (T_region rfl ?_)
       refine O_m rfl ?_
       refine O_m rfl ?_
       refine O_m rfl ?_
       refine O_y hs (Y_idxS hx k Tryz.underlying24 Tryz.sizeOf42 rfl rfl rfl (by omega) fun p55 c55 hp55 hc55 hR55 => ?_)
       obtain ⟨hcc55, _⟩ := hR55
       rw [← hnk] at hcc55
       subst hcc55
       refine O_y hs (Y_fieldAddrP FO42_3 rfl ?_)
       refine O_y hs (Y_ldG Tryz.isAgg3 rfl (hp55 6 (.int .i64 (R : Int)) rfl) ?_)
       refine O_y hs (Y_idxRow (R) Tryz.underlying66 Tryz.sizeOf3 rfl rfl rfl (by omega) ?_)
       refine O_y hs (Y_ldRow 0 rfl Tryz.isAgg3 rfl (by rw [List.getElem?_map, List.getElem?_eq_getElem hR]; rfl) ?_)
       refine O_y hs (Y_add (c := (((cs.modify L (· + 1))[R]'hR + 1 : Nat) : Int)) rfl rfl (by omega) (by have := mod_le hcb _ (List.getElem_mem hR); omega) ?_)
       refine O_y hs (Y_idxRow (R) Tryz.underlying66 Tryz.sizeOf3 rfl rfl rfl (by omega) ?_)
       refine O_n (S_stRow hs Tryz.sizeOf3 rfl rfl rfl (by omega) fun _ hs => ?_)
       refine O_nil (T_kp [0, 3, 4] rfl ?_)
       rw [set_mod hR] at hs
       refine T_region rfl ?_
       refine O_m rfl ?_
       refine O_y hs (Y_add (c := ((k + 1 : Nat) : Int)) rfl rfl (by omega) (by omega) ?_)
       refine O_a rfl ?_
       refine O_nil ⟨_, ?_, [(0, _), (3, _), (4, _)], ⟨rfl, rfl, rfl, trivial⟩, ⟨k + 1, stepC cs l[k], _, by omega, by rw [foldl_take_succ _ _ _ _ (by omega), ← hcs], by rw [herr]; exact errF_step (by omega) (by rw [← hnk]; exact hne), by rw [stepC_len]; exact hcl, fun x hx => by have := stepC_le hcb x hx; omega, rfl, rfl, by rw [← hnk]; unfold stepC; rw [if_pos (by dsimp only; omega)]; exact hs⟩⟩
       omega
      ·
       dsimp only [cmpP] at h51
       refine O_nil (T_kp [0, 3, 4, 51] rfl ?_)
       refine T_condF rfl (T_skip ?_)
       refine T_region rfl ?_
       refine O_m rfl ?_
       refine O_y hs (Y_add (c := ((k + 1 : Nat) : Int)) rfl rfl (by omega) (by omega) ?_)
       refine O_a rfl ?_
       refine O_nil ⟨_, ?_, [(0, _), (3, _), (4, _)], ⟨rfl, rfl, rfl, trivial⟩, ⟨k + 1, stepC cs l[k], _, by omega, by rw [foldl_take_succ _ _ _ _ (by omega), ← hcs], by rw [herr]; exact errF_step (by omega) (by rw [← hnk]; exact hne), by rw [stepC_len]; exact hcl, fun x hx => by have := stepC_le hcb x hx; omega, rfl, rfl, by rw [← hnk]; unfold stepC; rw [if_neg (by dsimp only; omega), if_pos (by dsimp only; omega)]; exact hs⟩⟩
       omega
     ·
      dsimp only [cmpP] at h39
      refine O_nil (T_kp [0, 3, 4, 6, 39] rfl ?_)
      refine T_condF rfl (T_skip ?_)
      refine T_seq (T_region rfl ?_)
      refine O_m rfl ?_
      refine O_y hs (Y_cmpF rfl rfl rfl (by omega) ?_)
      refine O_nil (T_kp [0, 3, 4, 51] rfl ?_)
      refine T_condF rfl (T_skip ?_)
      refine T_region rfl ?_
      refine O_m rfl ?_
      refine O_y hs (Y_add (c := ((k + 1 : Nat) : Int)) rfl rfl (by omega) (by omega) ?_)
      refine O_a rfl ?_
      refine O_nil ⟨_, ?_, [(0, _), (3, _), (4, _)], ⟨rfl, rfl, rfl, trivial⟩, ⟨k + 1, stepC cs l[k], _, by omega, by rw [foldl_take_succ _ _ _ _ (by omega), ← hcs], by rw [herr]; exact errF_step (by omega) (by rw [← hnk]; exact hne), by rw [stepC_len]; exact hcl, fun x hx => by have := stepC_le hcb x hx; omega, rfl, rfl, by rw [← hnk]; unfold stepC; rw [if_neg (by dsimp only; omega), if_neg (by dsimp only; omega)]; exact hs⟩⟩
      omega
   ·
    dsimp only [cmpP] at h20
    refine O_nil (T_kp [0, 3, 4, 20] rfl ?_)
    refine T_condF rfl (T_exit ?_)
    obtain rfl : k = l.length := by omega
    rw [List.take_length] at hcs
    have hcs' : cntF l = cs := hcs.symm
    rw [List.drop_length] at herr
    have h0e : errF 0 l = 0 := herr
    refine T_seq (T_seq (T_region rfl ?_))
    refine O_a rfl ?_
    refine O_nil (T_kp [0, 3, 7] rfl ?_)
    refine T_block (T_loop (fun m E w => ∃ (j : Nat) (G' : Ghost), j ≤ l.length - 1 ∧ (∀ i, i < j → cs.getD i 0 = 1) ∧ m = l.length - 1 - j ∧ E = ⟨[], [(0, (.slice A l.length cap)), (3, .slice (some ⟨b16, 0, none⟩) l.length l.length), (7, .int .i64 (j : Int))]⟩ ∧ St ⟨w0, G, feet []⟩ G' [.row 3 1 (.slice (some ⟨b16, 0, none⟩) l.length l.length) l.length (cs.map natV)] w) (L := [(0, _), (3, _), (7, _)]) ⟨rfl, rfl, rfl, trivial⟩ (⟨0, _, by omega, fun i hi => absurd hi (by omega), rfl, rfl, hs⟩) fun m E w hI => ?_)
    obtain ⟨j, G', hj, hone, rfl, rfl, hs⟩ := hI
    have hx := hx0.mono hs.le
    refine T_seq (T_seq (T_region rfl ?_))
    refine O_m rfl ?_
    refine O_y hs (Y_add (c := ((j + 1 : Nat) : Int)) rfl rfl (by omega) (by omega) ?_)
    refine O_m rfl ?_
    refine O_y hs (Y_len Tryz.underlying24 rfl ?_)
    refine O_y hs (Y_cmpS rfl rfl rfl (fun h66 => ?_) (fun h66 => ?_))
    ·
     dsimp only [cmpP] at h66
     refine O_nil (T_kp [0, 3, 7, 66] rfl ?_)
     refine T_condT rfl (T_skip ?_)
     refine T_seq (T_block (T_seq (T_region rfl ?_)))
     refine O_m rfl ?_
     refine O_m rfl ?_
     refine O_y hs (Y_idxRow (j) Tryz.underlying66 Tryz.sizeOf3 rfl rfl rfl (by omega) ?_)
     refine O_y hs (Y_ldRow 0 rfl Tryz.isAgg3 rfl (by rw [List.getElem?_map, List.getElem?_eq_getElem (by omega)]; rfl) ?_)
     refine O_y hs (Y_cmpS rfl rfl rfl (fun h73 => ?_) (fun h73 => ?_))
     ·
      dsimp only [cmpP] at h73
      refine O_nil (T_kp [0, 3, 7, 73] rfl ?_)
      refine T_condT rfl (T_seq (T_region rfl ?_))
      refine O_a rfl ?_
      refine O_nil (T_kp [2] rfl ?_)
      refine T_ret ?_
      refine Rt_fin (vs := [_]) Tryz.results25 rfl ⟨rfl, trivial⟩ ?_
      try dsimp only [tup]
      rw [valid_cnt (by omega) (by omega) h0e, hcs', ones_not (i := j) (by omega) (by omega) (fun h => h73 (by omega))]
      exact ⟨_, [], hs.done, rfl, rfl⟩
     ·
      dsimp only [cmpP] at h73
      refine O_nil (T_kp [0, 3, 7, 73] rfl ?_)
      refine T_condF rfl (T_skip ?_)
      refine T_region rfl ?_
      refine O_m rfl ?_
      refine O_y hs (Y_add (c := ((j + 1 : Nat) : Int)) rfl rfl (by omega) (by omega) ?_)
      refine O_a rfl ?_
      have h1j : cs.getD j 0 = 1 := by rw [List.getD_eq_getElem?_getD, List.getElem?_eq_getElem (by omega), Option.getD_some]; omega
      refine O_nil ⟨_, ?_, [(0, _), (3, _), (7, _)], ⟨rfl, rfl, rfl, trivial⟩, ⟨j + 1, _, by omega, fun i hi => (Nat.lt_or_ge i j).elim (hone i) (fun h' => by rw [show i = j by omega]; exact h1j), rfl, rfl, hs⟩⟩
      omega
    ·
     dsimp only [cmpP] at h66
     refine O_nil (T_kp [0, 3, 7, 66] rfl ?_)
     refine T_condF rfl (T_exit ?_)
     refine T_seq (T_region rfl ?_)
     refine O_a rfl ?_
     refine O_nil (T_kp [2] rfl ?_)
     refine T_ret ?_
     refine Rt_fin (vs := [_]) Tryz.results25 rfl ⟨rfl, trivial⟩ ?_
     try dsimp only [tup]
     rw [valid_cnt (by omega) (by omega) h0e, hcs', ones_all (m := l.length - 1) (fun i hi => hone i (by omega))]
     exact ⟨_, [], hs.done, rfl, rfl⟩

set_option maxHeartbeats 400000 in
set_option maxRecDepth 10000 in
theorem rplain_ok {G : Ghost} {x : UInt8} :
  FnOk Tryz.prog 98 [.int .u8 (x.toNat : Int)] G [] fun r _ H' => H' = [] ∧ r = .bool (plainB x) := by
 have hx := x.toNat_lt
 have h17 : ([33, 38, 40, 41, 42, 43, 45, 46, 63, 91, 92, 93, 94, 123, 124, 125, 126] : List UInt8).length = 17 := rfl
 have hz17 : (⟨#[33, 38, 40, 41, 42, 43, 45, 46, 63, 91, 92, 93, 94, 123, 124, 125, 126]⟩ : ByteArray).size = 17 := rfl
 refine FnOk.of_T [(0, _)] Tryz.func98 rfl Tryz.ntmps98 (by simp) rfl fun w0 hs => ?_
 refine T_seq (T_region rfl ?_)
 refine O_a rfl ?_
 refine O_nil (T_kp [0] rfl ?_)
 refine T_seq (T_seq (T_region rfl ?_))
 refine O_m rfl ?_
 refine O_y hs (Y_cmpS rfl rfl rfl (fun h6 => ?_) (fun h6 => ?_))
 ·
  dsimp only [cmpP] at h6
  refine O_m rfl ?_
  refine O_no 7 rfl rfl ?_
  refine O_no 7 rfl rfl ?_
  refine O_y hs (Y_pickT rfl rfl ?_)
  refine O_nil (T_kp [0, 10] rfl ?_)
  refine T_condT rfl (T_seq (T_region rfl ?_))
  refine O_a rfl ?_
  refine O_nil (T_kp [2] rfl ?_)
  refine T_ret ?_
  refine Rt_fin (vs := [_]) Tryz.results98 rfl ⟨rfl, trivial⟩ ?_
  try dsimp only [tup]
  exact ⟨_, [], hs.done, rfl, congrArg Value.bool (plain_1 (by omega)).symm⟩
 ·
  dsimp only [cmpP] at h6
  refine O_m rfl ?_
  refine O_yy 7 hs rfl rfl (Y_move rfl ?_)
  refine O_yy 7 hs rfl rfl (Y_cmpS rfl rfl rfl (fun h9 => ?_) (fun h9 => ?_))
  ·
   dsimp only [cmpP] at h9
   refine O_y hs (Y_pickF rfl rfl ?_)
   refine O_nil (T_kp [0, 10] rfl ?_)
   refine T_condT rfl (T_seq (T_region rfl ?_))
   refine O_a rfl ?_
   refine O_nil (T_kp [2] rfl ?_)
   refine T_ret ?_
   refine Rt_fin (vs := [_]) Tryz.results98 rfl ⟨rfl, trivial⟩ ?_
   try dsimp only [tup]
   exact ⟨_, [], hs.done, rfl, congrArg Value.bool (plain_1 (by omega)).symm⟩
  ·
   dsimp only [cmpP] at h9
   refine O_y hs (Y_pickF rfl rfl ?_)
   refine O_nil (T_kp [0, 10] rfl ?_)
   refine T_condF rfl (T_skip ?_)
   refine T_seq (T_region rfl ?_)
   refine O_a rfl ?_
   refine O_nil (T_kp [0, 3] rfl ?_)
   refine T_seq (T_seq (T_region rfl ?_))
   refine O_a rfl ?_
   refine O_nil (T_kp [0, 3, 4] rfl ?_)
   refine T_block (T_loop (fun m E w => ∃ (i : Nat) (G' : Ghost), i ≤ 17 ∧ (∀ j (hj : j < ([33, 38, 40, 41, 42, 43, 45, 46, 63, 91, 92, 93, 94, 123, 124, 125, 126] : List UInt8).length), j < i → ¬ ([33, 38, 40, 41, 42, 43, 45, 46, 63, 91, 92, 93, 94, 123, 124, 125, 126] : List UInt8)[j] = x) ∧ m = 17 - i ∧ E = ⟨[], [(0, .int .u8 (x.toNat : Int)), (3, .string ⟨#[33, 38, 40, 41, 42, 43, 45, 46, 63, 91, 92, 93, 94, 123, 124, 125, 126]⟩), (4, .int .i64 (i : Int))]⟩ ∧ St ⟨w0, G, feet []⟩ G' [] w) (L := [(0, _), (3, _), (4, _)]) ⟨rfl, rfl, rfl, trivial⟩ (⟨0, _, by omega, fun j _ h => absurd h (Nat.not_lt_zero j), rfl, rfl, hs⟩) fun m E w hI => ?_)
   obtain ⟨i, G', hi, hno, rfl, rfl, hs⟩ := hI
   refine T_seq (T_seq (T_region rfl ?_))
   refine O_m rfl ?_
   refine O_m rfl ?_
   refine O_y hs (Y_lenS Tryz.underlying9 rfl ?_)
   refine O_y hs (Y_cmpS rfl rfl rfl (fun h14 => ?_) (fun h14 => ?_))
   ·
    dsimp only [cmpP] at h14
    refine O_nil (T_kp [0, 3, 4, 14] rfl ?_)
    refine T_condT rfl (T_skip ?_)
    refine T_seq (T_block (T_seq (T_region rfl ?_)))
    refine O_m rfl ?_
    refine O_m rfl ?_
    refine O_y hs (Y_idxStr (b := ([33, 38, 40, 41, 42, 43, 45, 46, 63, 91, 92, 93, 94, 123, 124, 125, 126] : List UInt8)[i]'(by rw [h17]; omega)) i Tryz.underlying9 rfl rfl rfl (str_at (s := ([33, 38, 40, 41, 42, 43, 45, 46, 63, 91, 92, 93, 94, 123, 124, 125, 126] : List UInt8)) (List.getElem?_eq_getElem (by rw [h17]; omega))) ?_)
    refine O_m rfl ?_
    refine O_y hs (Y_cmpS rfl rfl rfl (fun h21 => ?_) (fun h21 => ?_))
    ·
     dsimp only [cmpP] at h21
     refine O_nil (T_kp [0, 3, 4, 21] rfl ?_)
     refine T_condT rfl (T_seq (T_region rfl ?_))
     refine O_a rfl ?_
     refine O_nil (T_kp [2] rfl ?_)
     refine T_ret ?_
     refine Rt_fin (vs := [_]) Tryz.results98 rfl ⟨rfl, trivial⟩ ?_
     try dsimp only [tup]
     exact ⟨_, [], hs.done, rfl, congrArg Value.bool (plain_3 (List.contains_iff_mem.2 (u8i h21 ▸ List.getElem_mem _))).symm⟩
    ·
     dsimp only [cmpP] at h21
     refine O_nil (T_kp [0, 3, 4, 21] rfl ?_)
     refine T_condF rfl (T_skip ?_)
     refine T_region rfl ?_
     refine O_m rfl ?_
     refine O_y hs (Y_add (c := ((i + 1 : Nat) : Int)) rfl rfl (by omega) (by omega) ?_)
     refine O_a rfl ?_
     refine O_nil ⟨_, ?_, [(0, _), (3, _), (4, _)], ⟨rfl, rfl, rfl, trivial⟩, ⟨i + 1, _, by omega, fun j hj h1 => (Nat.lt_or_ge j i).elim (hno j hj) (fun h2 => by obtain rfl : j = i := (by omega); exact fun e => h21 (by rw [e])), rfl, rfl, hs⟩⟩
     omega
   ·
    dsimp only [cmpP] at h14
    refine O_nil (T_kp [0, 3, 4, 14] rfl ?_)
    refine T_condF rfl (T_exit ?_)
    refine T_seq (T_region rfl ?_)
    refine O_a rfl ?_
    refine O_nil (T_kp [2] rfl ?_)
    refine T_ret ?_
    refine Rt_fin (vs := [_]) Tryz.results98 rfl ⟨rfl, trivial⟩ ?_
    try dsimp only [tup]
    exact ⟨_, [], hs.done, rfl, congrArg Value.bool (plain_2 (by omega) (by omega) (by rw [← Bool.not_eq_true, List.contains_iff_mem]; intro hm; obtain ⟨j, hj, e⟩ := List.getElem_of_mem hm; exact hno j hj (by omega) e)).symm⟩

def rankK (k : Int) : Nat := if k = 5 then 0 else if k = 6 then 1 else if k = 4 then 2 else if k = 7 then 3 else 4
theorem dig_cut : ∀ i : Fin 16, (([48,49,50,51,52,53,54,55,56,57,97,98,99,100,101,102] : List UInt8).drop i.val).take (i.val + 1 - i.val) = [lowHex i.val] := by decide
theorem dig_ofNat {n : Nat} (h : n < 10) : digT n = [UInt8.ofNat (48 + n)] := if_pos h
theorem dig_two {n : Nat} (h : ¬ n < 10) : digT n = [UInt8.ofNat (48 + n / 10), UInt8.ofNat (48 + n % 10)] := if_neg h


set_option maxHeartbeats 400000 in
set_option maxRecDepth 10000 in
theorem rrank_ok {G : Ghost} {k : Int} :
  FnOk Tryz.prog 86 [.int .i64 k] G [] fun r _ H' => H' = [] ∧ r = .int .i64 ((rankK k : Nat) : Int) := by
 refine FnOk.of_T [(0, _)] Tryz.func86 rfl Tryz.ntmps86 (by simp) rfl fun w0 hs => ?_
 refine T_seq (T_region rfl ?_)
 refine O_a rfl ?_
 refine O_nil (T_kp [0] rfl ?_)
 refine T_seq (T_seq (T_region rfl ?_))
 refine O_m rfl ?_
 refine O_nil (T_kp [3] rfl ?_)
 refine T_block (T_seq (T_region rfl ?_))
 refine O_y hs (Y_cmpS rfl rfl rfl (fun h5 => ?_) (fun h5 => ?_))
 ·
  dsimp only [cmpP] at h5
  refine O_a rfl ?_
  refine O_nil (T_kp [3, 4] rfl ?_)
  refine T_condT rfl (T_seq (T_region rfl ?_))
  refine O_a rfl ?_
  refine O_nil (T_kp [2] rfl ?_)
  refine T_ret ?_
  refine Rt_fin (vs := [_]) Tryz.results86 rfl ⟨rfl, trivial⟩ ?_
  try dsimp only [tup]
  exact ⟨_, [], hs.done, rfl, by unfold rankK; rw [if_pos (by omega)]; rfl⟩
 ·
  dsimp only [cmpP] at h5
  refine O_a rfl ?_
  refine O_nil (T_kp [3, 4] rfl ?_)
  refine T_condF rfl (T_seq (T_region rfl ?_))
  refine O_y hs (Y_cmpS rfl rfl rfl (fun h7 => ?_) (fun h7 => ?_))
  ·
   dsimp only [cmpP] at h7
   refine O_a rfl ?_
   refine O_nil (T_kp [3, 6] rfl ?_)
   refine T_condT rfl (T_seq (T_region rfl ?_))
   refine O_a rfl ?_
   refine O_nil (T_kp [2] rfl ?_)
   refine T_ret ?_
   refine Rt_fin (vs := [_]) Tryz.results86 rfl ⟨rfl, trivial⟩ ?_
   try dsimp only [tup]
   exact ⟨_, [], hs.done, rfl, by unfold rankK; rw [if_neg (by omega), if_pos (by omega)]; rfl⟩
  ·
   dsimp only [cmpP] at h7
   refine O_a rfl ?_
   refine O_nil (T_kp [3, 6] rfl ?_)
   refine T_condF rfl (T_seq (T_region rfl ?_))
   refine O_y hs (Y_cmpS rfl rfl rfl (fun h9 => ?_) (fun h9 => ?_))
   ·
    dsimp only [cmpP] at h9
    refine O_a rfl ?_
    refine O_nil (T_kp [3, 8] rfl ?_)
    refine T_condT rfl (T_seq (T_region rfl ?_))
    refine O_a rfl ?_
    refine O_nil (T_kp [2] rfl ?_)
    refine T_ret ?_
    refine Rt_fin (vs := [_]) Tryz.results86 rfl ⟨rfl, trivial⟩ ?_
    try dsimp only [tup]
    exact ⟨_, [], hs.done, rfl, by unfold rankK; rw [if_neg (by omega), if_neg (by omega), if_pos (by omega)]; rfl⟩
   ·
    dsimp only [cmpP] at h9
    refine O_a rfl ?_
    refine O_nil (T_kp [3, 8] rfl ?_)
    refine T_condF rfl (T_seq (T_region rfl ?_))
    refine O_y hs (Y_cmpS rfl rfl rfl (fun h11 => ?_) (fun h11 => ?_))
    ·
     dsimp only [cmpP] at h11
     refine O_a rfl ?_
     refine O_nil (T_kp [10] rfl ?_)
     refine T_condT rfl (T_seq (T_region rfl ?_))
     refine O_a rfl ?_
     refine O_nil (T_kp [2] rfl ?_)
     refine T_ret ?_
     refine Rt_fin (vs := [_]) Tryz.results86 rfl ⟨rfl, trivial⟩ ?_
     try dsimp only [tup]
     exact ⟨_, [], hs.done, rfl, by unfold rankK; rw [if_neg (by omega), if_neg (by omega), if_neg (by omega), if_pos (by omega)]; rfl⟩
    ·
     dsimp only [cmpP] at h11
     refine O_a rfl ?_
     refine O_nil (T_kp [10] rfl ?_)
     refine T_condF rfl (T_skip ?_)
     refine T_seq (T_region rfl ?_)
     refine O_a rfl ?_
     refine O_nil (T_kp [2] rfl ?_)
     refine T_ret ?_
     refine Rt_fin (vs := [_]) Tryz.results86 rfl ⟨rfl, trivial⟩ ?_
     try dsimp only [tup]
     exact ⟨_, [], hs.done, rfl, by unfold rankK; rw [if_neg (by omega), if_neg (by omega), if_neg (by omega), if_neg (by omega)]; rfl⟩

set_option maxHeartbeats 400000 in
set_option maxRecDepth 10000 in
theorem rchtx_ok {G : Ghost} {b : UInt8} :
  FnOk Tryz.prog 85 [.int .u8 (b.toNat : Int)] G [] fun r _ H' => H' = [] ∧ r = .string ⟨(charT b).toArray⟩ := by
 have hb := b.toNat_lt
 refine FnOk.of_T [(0, _)] Tryz.func85 rfl Tryz.ntmps85 (by simp) rfl fun w0 hs => ?_
 refine T_seq (T_region rfl ?_)
 refine O_a rfl ?_
 refine O_nil (T_kp [0] rfl ?_)
 refine T_seq (T_seq (T_region rfl ?_))
 refine O_m rfl ?_
 refine O_s (S_call (H1 := []) hs rfl Tryz.func98 rfl (by kernel_rfl) (rplain_ok (x := b)) fun v1 G' H' _ hR hG5 hs => ?_)
 obtain ⟨rfl, rfl⟩ := hR
 replace hs : St _ _ [] _ := hs
 cases h5 : plainB b
 ·
  refine O_nil (T_kp [0, 5] rfl ?_)
  refine T_condF rfl (T_skip ?_)
  refine T_seq (T_region rfl ?_)
  refine O_a rfl ?_
  refine O_nil (T_kp [0, 3] rfl ?_)
  refine T_seq (T_drawS [0, 1, 2, 3, 4, 5, 6, 7, 8, 9, 10, 11, 12, 13, 14, 15, 16] hs (by kernel_rfl) ?_)
  replace hs := hs.drew
  refine A_take 0 rfl (by kernel_rfl) rfl hs (Y_move rfl ?_)
  refine A_take 1 rfl (by kernel_rfl) rfl hs (Y_move rfl ?_)
  refine A_take 2 rfl (by kernel_rfl) rfl hs (Y_quoU (c := ((b.toNat / 16 : Nat) : Int)) rfl rfl (by omega) (by omega) (by omega) ?_)
  refine A_take 3 rfl (by kernel_rfl) rfl hs (Y_move rfl ?_)
  refine A_take 4 rfl (by kernel_rfl) rfl hs (Y_quoU (c := ((b.toNat / 16 : Nat) : Int)) rfl rfl (by omega) (by omega) (by omega) ?_)
  refine A_take 5 rfl (by kernel_rfl) rfl hs (Y_addW rfl rfl ?_)
  refine A_take 6 rfl (by kernel_rfl) rfl hs (Y_sliceStr (s := ([48,49,50,51,52,53,54,55,56,57,97,98,99,100,101,102] : List UInt8)) (b.toNat / 16) (b.toNat / 16 + 1) Tryz.underlying9 rfl ⟨_, _, rfl, rfl⟩ ⟨_, _, rfl, by rw [IntKind.wrap_u8]; omega⟩ (by omega) (by show _ ≤ 16; omega) ?_)
  refine A_take 7 rfl (by kernel_rfl) rfl hs (Y_cat rfl rfl (by have := dig_cut ⟨b.toNat / 16, by omega⟩; dsimp only at this; rw [this]; simp only [List.length_append, List.length_cons, List.length_nil]; omega) ?_)
  refine A_take 8 rfl (by kernel_rfl) rfl hs (Y_move rfl ?_)
  refine A_take 9 rfl (by kernel_rfl) rfl hs (Y_move rfl ?_)
  refine A_take 10 rfl (by kernel_rfl) rfl hs (Y_rem (c := ((b.toNat % 16 : Nat) : Int)) rfl rfl (by omega) (by omega) (by omega) ?_)
  refine A_take 11 rfl (by kernel_rfl) rfl hs (Y_move rfl ?_)
  refine A_take 12 rfl (by kernel_rfl) rfl hs (Y_rem (c := ((b.toNat % 16 : Nat) : Int)) rfl rfl (by omega) (by omega) (by omega) ?_)
  refine A_take 13 rfl (by kernel_rfl) rfl hs (Y_addW rfl rfl ?_)
  refine A_take 14 rfl (by kernel_rfl) rfl hs (Y_sliceStr (s := ([48,49,50,51,52,53,54,55,56,57,97,98,99,100,101,102] : List UInt8)) (b.toNat % 16) (b.toNat % 16 + 1) Tryz.underlying9 rfl ⟨_, _, rfl, rfl⟩ ⟨_, _, rfl, by rw [IntKind.wrap_u8]; omega⟩ (by omega) (by show _ ≤ 16; omega) ?_)
  refine A_take 15 rfl (by kernel_rfl) rfl hs (Y_cat rfl rfl (by have := dig_cut ⟨b.toNat / 16, by omega⟩; dsimp only at this; rw [this]; have := dig_cut ⟨b.toNat % 16, by omega⟩; dsimp only at this; rw [this]; simp only [List.length_append, List.length_cons, List.length_nil]; omega) ?_)
  refine A_take 16 rfl (by kernel_rfl) rfl hs (Y_assign rfl ?_)
  refine A_done (by kernel_rfl) (T_kp [2] rfl ?_)
  refine T_ret ?_
  refine Rt_fin (vs := [_]) Tryz.results85 rfl ⟨rfl, trivial⟩ ?_
  try dsimp only [tup]
  exact ⟨_, [], hs.done, rfl, by unfold charT; rw [if_neg (by rw [h5]; simp)]; have e1 := dig_cut ⟨b.toNat / 16, by omega⟩; have e2 := dig_cut ⟨b.toNat % 16, by omega⟩; dsimp only at e1 e2; rw [e1, e2]; rfl⟩
 ·
  refine O_nil (T_kp [0, 5] rfl ?_)
  refine T_condT rfl (T_seq (T_region rfl ?_))
  refine O_m rfl ?_
  refine O_s (S_lit hs Tryz.underlying30 Tryz.sizeOf5 Tryz.zeroValue5 rfl rfl (by decide) (by decide) rfl (cs := [_]) rfl rfl fun v2 _ hs _ => ?_)
  obtain ⟨_, hG7, hl7, hs⟩ := hs.fixRow noM
  refine O_y hs (Y_str Tryz.underlying30 Tryz.underlying5 Tryz.underlying9 rfl (show Bytes _ _ [b] from hl7) ?_)
  refine O_a rfl ?_
  refine O_nil (T_kp [2] rfl ?_)
  refine T_ret ?_
  refine Rt_fin (vs := [_]) Tryz.results85 rfl ⟨rfl, trivial⟩ ?_
  try dsimp only [tup]
  exact ⟨_, [], hs.done, rfl, by unfold charT; rw [if_pos h5]⟩

set_option maxHeartbeats 400000 in
set_option maxRecDepth 10000 in
theorem rnumt_1 {G : Ghost} {n : Nat} (hn : n < 10) :
  FnOk Tryz.prog 87 [.int .i64 (n : Int)] G [] fun r _ H' => H' = [] ∧ r = .string ⟨(digT n).toArray⟩ := by
 refine FnOk.of_T [(0, _)] Tryz.func87 rfl Tryz.ntmps87 (by simp) rfl fun w0 hs => ?_
 refine T_seq (T_region rfl ?_)
 refine O_a rfl ?_
 refine O_nil (T_kp [0] rfl ?_)
 refine T_seq (T_seq (T_region rfl ?_))
 refine O_m rfl ?_
 refine O_y hs (Y_cmpT rfl rfl rfl (by omega) ?_)
 refine O_nil (T_kp [0, 4] rfl ?_)
 refine T_condT rfl (T_seq (T_region rfl ?_))
 refine O_m rfl ?_
 refine O_y hs (Y_add (c := ((48 + n : Nat) : Int)) rfl rfl (by omega) (by omega) ?_)
 refine O_y hs (Y_conv Tryz.underlying3 Tryz.underlying5 (c := ((UInt8.ofNat (48 + n)).toNat : Int)) rfl (by rw [IntKind.wrap_u8, UInt8.toNat_ofNat']; omega) ?_)
 refine O_s (S_lit hs Tryz.underlying30 Tryz.sizeOf5 Tryz.zeroValue5 rfl rfl (by decide) (by decide) rfl (cs := [_]) rfl rfl fun v1 _ hs _ => ?_)
 obtain ⟨_, hG8, hl8, hs⟩ := hs.fixRow noM
 refine O_y hs (Y_str Tryz.underlying30 Tryz.underlying5 Tryz.underlying9 rfl (show Bytes _ _ [(UInt8.ofNat (48 + n))] from hl8) ?_)
 refine O_a rfl ?_
 refine O_nil (T_kp [2] rfl ?_)
 refine T_ret ?_
 refine Rt_fin (vs := [_]) Tryz.results87 rfl ⟨rfl, trivial⟩ ?_
 try dsimp only [tup]
 exact ⟨_, [], hs.done, rfl, by rw [dig_ofNat hn]⟩

set_option maxHeartbeats 400000 in
set_option maxRecDepth 10000 in
theorem rnumt_ok {G : Ghost} {n : Nat} (hn : n < 100) :
  FnOk Tryz.prog 87 [.int .i64 (n : Int)] G [] fun r _ H' => H' = [] ∧ r = .string ⟨(digT n).toArray⟩ := by
 refine FnOk.of_T [(0, _)] Tryz.func87 rfl Tryz.ntmps87 (by simp) rfl fun w0 hs => ?_
 refine T_seq (T_region rfl ?_)
 refine O_a rfl ?_
 refine O_nil (T_kp [0] rfl ?_)
 refine T_seq (T_seq (T_region rfl ?_))
 refine O_m rfl ?_
 refine O_y hs (Y_cmpS rfl rfl rfl (fun h4 => ?_) (fun h4 => ?_))
 ·
  dsimp only [cmpP] at h4
  refine O_nil (T_kp [0, 4] rfl ?_)
  refine T_condT rfl (T_seq (T_region rfl ?_))
  refine O_m rfl ?_
  refine O_y hs (Y_add (c := ((48 + n : Nat) : Int)) rfl rfl (by omega) (by omega) ?_)
  refine O_y hs (Y_conv Tryz.underlying3 Tryz.underlying5 (c := ((UInt8.ofNat (48 + n)).toNat : Int)) rfl (by rw [IntKind.wrap_u8, UInt8.toNat_ofNat']; omega) ?_)
  refine O_s (S_lit hs Tryz.underlying30 Tryz.sizeOf5 Tryz.zeroValue5 rfl rfl (by decide) (by decide) rfl (cs := [_]) rfl rfl fun v1 _ hs _ => ?_)
  obtain ⟨_, hG8, hl8, hs⟩ := hs.fixRow noM
  refine O_y hs (Y_str Tryz.underlying30 Tryz.underlying5 Tryz.underlying9 rfl (show Bytes _ _ [(UInt8.ofNat (48 + n))] from hl8) ?_)
  refine O_a rfl ?_
  refine O_nil (T_kp [2] rfl ?_)
  refine T_ret ?_
  refine Rt_fin (vs := [_]) Tryz.results87 rfl ⟨rfl, trivial⟩ ?_
  try dsimp only [tup]
  exact ⟨_, [], hs.done, rfl, by rw [dig_ofNat (by omega)]⟩
 ·
  dsimp only [cmpP] at h4
  refine O_nil (T_kp [0, 4] rfl ?_)
  refine T_condF rfl (T_skip ?_)
  refine T_seq (T_drawS [0, 1, 2, 3, 4, 5, 6, 7, 8, 9, 10] hs (by kernel_rfl) ?_)
  replace hs := hs.drew
  refine A_take 0 rfl (by kernel_rfl) rfl hs (Y_move rfl ?_)
  refine A_take 1 rfl (by kernel_rfl) rfl hs (Y_quo (c := ((n / 10 : Nat) : Int)) rfl rfl (by omega) (by omega) (by omega) ?_)
  refine A_take 3 rfl (by kernel_rfl) rfl hs (Y_move rfl ?_)
  refine A_take 4 rfl (by kernel_rfl) rfl hs (Y_rem (c := ((n % 10 : Nat) : Int)) rfl rfl (by omega) (by omega) (by omega) ?_)
  refine A_take 5 rfl (by kernel_rfl) rfl hs (Y_add (c := ((48 + n % 10 : Nat) : Int)) rfl rfl (by omega) (by omega) ?_)
  refine A_take 6 rfl (by kernel_rfl) rfl hs (Y_conv Tryz.underlying3 Tryz.underlying5 (c := ((UInt8.ofNat (48 + n % 10)).toNat : Int)) rfl (by rw [IntKind.wrap_u8, UInt8.toNat_ofNat']; omega) ?_)
  refine A_two 2 7 rfl rfl (by kernel_rfl) rfl rfl ?_ ?_
  ·
   have hle := hs.le
   refine S_call (H1 := []) hs rfl Tryz.func87 rfl (by kernel_rfl) (rnumt_1 (n := n / 10) (by omega)) fun v2 G' H' _ hR hG12 hs => ?_
   obtain ⟨rfl, rfl⟩ := hR
   replace hs : St _ _ [] _ := hs
   refine A_moreS hs hle hG12 (List.Sublist.refl _) ?_
   have hle := hs.le
   refine A_only 7 rfl (by kernel_rfl) rfl (S_lit hs Tryz.underlying30 Tryz.sizeOf5 Tryz.zeroValue5 rfl rfl (by decide) (by decide) rfl (cs := [_]) rfl rfl fun v3 _ hs _ => ?_)
   obtain ⟨_, hG17, hl17, hs⟩ := hs.fixRow noM
   refine A_moreS hs hle hG17 (List.Sublist.refl _) ?_
   refine A_take 8 rfl (by kernel_rfl) rfl hs (Y_str Tryz.underlying30 Tryz.underlying5 Tryz.underlying9 rfl (show Bytes _ _ [(UInt8.ofNat (48 + n % 10))] from hl17) ?_)
   refine A_take 9 rfl (by kernel_rfl) rfl hs (Y_cat rfl rfl (by have := digT_len (n / 10); simp; omega) ?_)
   refine A_take 10 rfl (by kernel_rfl) rfl hs (Y_assign rfl ?_)
   refine A_done (by kernel_rfl) (T_kp [2] rfl ?_)
   refine T_ret ?_
   refine Rt_fin (vs := [_]) Tryz.results87 rfl ⟨rfl, trivial⟩ ?_
   try dsimp only [tup]
   exact ⟨_, [], hs.done, rfl, by rw [dig_ofNat (n := n / 10) (by omega), dig_two (n := n) (by omega)]; rfl⟩
  ·
   have hle := hs.le
   refine S_lit hs Tryz.underlying30 Tryz.sizeOf5 Tryz.zeroValue5 rfl rfl (by decide) (by decide) rfl (cs := [_]) rfl rfl fun v4 _ hs _ => ?_
   obtain ⟨_, hG17, hl17, hs⟩ := hs.fixRow noM
   refine A_moreS hs hle hG17 (List.Sublist.refl _) ?_
   refine A_take 8 rfl (by kernel_rfl) rfl hs (Y_str Tryz.underlying30 Tryz.underlying5 Tryz.underlying9 rfl (show Bytes _ _ [(UInt8.ofNat (48 + n % 10))] from hl17) ?_)
   have hle := hs.le
   refine A_only 2 rfl (by kernel_rfl) rfl (S_call (H1 := []) hs rfl Tryz.func87 rfl (by kernel_rfl) (rnumt_1 (n := n / 10) (by omega)) fun v5 G' H' _ hR hG12 hs => ?_)
   obtain ⟨rfl, rfl⟩ := hR
   replace hs : St _ _ [] _ := hs
   refine A_moreS hs hle hG12 (List.Sublist.refl _) ?_
   refine A_take 9 rfl (by kernel_rfl) rfl hs (Y_cat rfl rfl (by have := digT_len (n / 10); simp; omega) ?_)
   refine A_take 10 rfl (by kernel_rfl) rfl hs (Y_assign rfl ?_)
   refine A_done (by kernel_rfl) (T_kp [2] rfl ?_)
   refine T_ret ?_
   refine Rt_fin (vs := [_]) Tryz.results87 rfl ⟨rfl, trivial⟩ ?_
   try dsimp only [tup]
   exact ⟨_, [], hs.done, rfl, by rw [dig_ofNat (n := n / 10) (by omega), dig_two (n := n) (by omega)]; rfl⟩

set_option maxHeartbeats 400000 in
set_option maxRecDepth 10000 in
theorem rsuf_ok {G : Ghost} {kd ll rr mn mx : Int} {c0 c1 c2 c3 : Nat} (h1 : 0 ≤ mn) (h2 : mn ≤ 16) (h3 : -1 ≤ mx) (h4 : mx ≤ 16) :
  FnOk Tryz.prog 65 [.agg #[.int .i64 kd, u64V c0, u64V c1, u64V c2, u64V c3, .int .i64 ll, .int .i64 rr, .int .i64 mn, .int .i64 mx]] G [] fun r _ H' => H' = [] ∧ r = .string ⟨(sufT mn mx).toArray⟩ := by
 obtain ⟨a, rfl⟩ : ∃ a : Nat, mn = (a : Int) := Int.eq_ofNat_of_zero_le h1
 show FnOk Tryz.prog 65 [.agg #[.int .i64 kd, u64V c0, u64V c1, u64V c2, u64V c3, .int .i64 ll, .int .i64 rr, .int .i64 (a : Int), .int .i64 mx]] G [] _
 refine FnOk.of_T [(0, _)] Tryz.func65 rfl Tryz.ntmps65 (by simp) rfl fun w0 hs => ?_
 refine T_seq (T_region rfl ?_)
 refine O_s (S_box hs rfl (cs := [_, _, _, _, _, _, _, _, _]) rfl fun b1 _ hs => ?_)
 refine O_a rfl ?_
 refine O_nil (T_kp [1] rfl ?_)
 refine T_seq (T_seq (T_region rfl ?_))
 refine O_y hs (Y_fieldAddr FO42_4 rfl (m := 7) rfl ?_)
 refine O_y hs (Y_ld 0 Tryz.isAgg3 rfl rfl rfl ?_)
 refine O_y hs (Y_cmpS rfl rfl rfl (fun h5 => ?_) (fun h5 => ?_))
 ·
  dsimp only [cmpP] at h5
  refine O_m rfl ?_
  refine O_yy 6 hs rfl rfl (Y_fieldAddr FO42_5 rfl (m := 8) rfl ?_)
  refine O_yy 6 hs rfl rfl (Y_ld 0 Tryz.isAgg3 rfl rfl rfl ?_)
  refine O_yy 6 hs rfl rfl (Y_cmpS rfl rfl rfl (fun h9 => ?_) (fun h9 => ?_))
  ·
   dsimp only [cmpP] at h9
   refine O_y hs (Y_pickT rfl rfl ?_)
   refine O_nil (T_kp [1, 10] rfl ?_)
   refine T_condT rfl (T_seq (T_region rfl ?_))
   refine O_a rfl ?_
   refine O_nil (T_kp [2] rfl ?_)
   refine T_ret ?_
   refine Rt_fin (vs := [_]) Tryz.results65 rfl ⟨rfl, trivial⟩ ?_
   try dsimp only [tup]
   exact ⟨_, [], hs.done, rfl, by unfold sufT; rw [if_pos (by omega)]; try rfl⟩
  ·
   dsimp only [cmpP] at h9
   refine O_y hs (Y_pickT rfl rfl ?_)
   refine O_nil (T_kp [1, 10] rfl ?_)
   refine T_condF rfl (T_skip ?_)
   refine T_seq (T_seq (T_region rfl ?_))
   refine O_y hs (Y_fieldAddr FO42_4 rfl (m := 7) rfl ?_)
   refine O_y hs (Y_ld 0 Tryz.isAgg3 rfl rfl rfl ?_)
   refine O_y hs (Y_cmpS rfl rfl rfl (fun h13 => ?_) (fun h13 => ?_))
   ·
    dsimp only [cmpP] at h13
    refine O_m rfl ?_
    refine O_yy 14 hs rfl rfl (Y_fieldAddr FO42_5 rfl (m := 8) rfl ?_)
    refine O_yy 14 hs rfl rfl (Y_ld 0 Tryz.isAgg3 rfl rfl rfl ?_)
    refine O_yy 14 hs rfl rfl (Y_cmpS rfl rfl rfl (fun h17 => ?_) (fun h17 => ?_))
    ·
     dsimp only [cmpP] at h17
     refine O_y hs (Y_pickT rfl rfl ?_)
     refine O_nil (T_kp [1, 18] rfl ?_)
     refine T_condT rfl (T_seq (T_region rfl ?_))
     refine O_a rfl ?_
     refine O_nil (T_kp [2] rfl ?_)
     refine T_ret ?_
     refine Rt_fin (vs := [_]) Tryz.results65 rfl ⟨rfl, trivial⟩ ?_
     try dsimp only [tup]
     exact ⟨_, [], hs.done, rfl, by unfold sufT; rw [if_neg (by omega), if_pos (by omega)]; try rfl⟩
    ·
     dsimp only [cmpP] at h17
     refine O_y hs (Y_pickT rfl rfl ?_)
     refine O_nil (T_kp [1, 18] rfl ?_)
     refine T_condF rfl (T_skip ?_)
     refine T_seq (T_seq (T_region rfl ?_))
     refine O_y hs (Y_fieldAddr FO42_4 rfl (m := 7) rfl ?_)
     refine O_y hs (Y_ld 0 Tryz.isAgg3 rfl rfl rfl ?_)
     refine O_y hs (Y_cmpS rfl rfl rfl (fun h21 => ?_) (fun h21 => ?_))
     ·
      dsimp only [cmpP] at h21
      refine O_m rfl ?_
      refine O_yy 22 hs rfl rfl (Y_fieldAddr FO42_5 rfl (m := 8) rfl ?_)
      refine O_yy 22 hs rfl rfl (Y_ld 0 Tryz.isAgg3 rfl rfl rfl ?_)
      refine O_yy 22 hs rfl rfl (Y_cmpS rfl rfl rfl (fun h25 => ?_) (fun h25 => ?_))
      ·
       dsimp only [cmpP] at h25
       refine O_y hs (Y_pickT rfl rfl ?_)
       refine O_nil (T_kp [1, 26] rfl ?_)
       refine T_condT rfl (T_seq (T_region rfl ?_))
       refine O_a rfl ?_
       refine O_nil (T_kp [2] rfl ?_)
       refine T_ret ?_
       refine Rt_fin (vs := [_]) Tryz.results65 rfl ⟨rfl, trivial⟩ ?_
       try dsimp only [tup]
       exact ⟨_, [], hs.done, rfl, by unfold sufT; rw [if_neg (by omega), if_neg (by omega), if_pos (by omega)]; try rfl⟩
      ·
       dsimp only [cmpP] at h25
       refine O_y hs (Y_pickT rfl rfl ?_)
       refine O_nil (T_kp [1, 26] rfl ?_)
       refine T_condF rfl (T_skip ?_)
       refine T_seq (T_seq (T_region rfl ?_))
       refine O_y hs (Y_fieldAddr FO42_5 rfl (m := 8) rfl ?_)
       refine O_y hs (Y_ld 0 Tryz.isAgg3 rfl rfl rfl ?_)
       refine O_y hs (Y_cmpS rfl rfl rfl (fun h29 => ?_) (fun h29 => ?_))
       ·
        dsimp only [cmpP] at h29
        refine O_nil (T_kp [1, 29] rfl ?_)
        refine T_condT rfl (T_seq (T_region rfl ?_))
        refine O_y hs (Y_fieldAddr FO42_4 rfl (m := 7) rfl ?_)
        refine O_y hs (Y_ld 0 Tryz.isAgg3 rfl rfl rfl ?_)
        refine O_s (S_call (H1 := []) hs rfl Tryz.func87 rfl (by kernel_rfl) (rnumt_ok (n := a) (by omega)) fun v1 G' H' _ hR hG32 hs => ?_)
        obtain ⟨rfl, rfl⟩ := hR
        replace hs : St _ _ [_] _ := hs
        refine O_y hs (Y_cat rfl rfl (by have h9 := digT_len a; simp only [List.length_append, List.length_cons, List.length_nil]; omega) ?_)
        refine O_y hs (Y_cat rfl rfl (by have h9 := digT_len a; simp only [List.length_append, List.length_cons, List.length_nil]; omega) ?_)
        refine O_a rfl ?_
        refine O_nil (T_kp [2] rfl ?_)
        refine T_ret ?_
        refine Rt_fin (vs := [_]) Tryz.results65 rfl ⟨rfl, trivial⟩ ?_
        try dsimp only [tup]
        exact ⟨_, [], hs.done, rfl, by unfold sufT; rw [if_neg (by omega), if_neg (by omega), if_neg (by omega), if_pos (by omega)]; simp⟩
       ·
        dsimp only [cmpP] at h29
        refine O_nil (T_kp [1, 29] rfl ?_)
        refine T_condF rfl (T_skip ?_)
        refine T_seq (T_drawS [0, 1, 2, 3, 4, 5, 6, 7, 8, 9, 10] hs (by kernel_rfl) ?_)
        replace hs := hs.drew
        refine A_take 0 rfl (by kernel_rfl) rfl hs (Y_fieldAddr FO42_4 rfl (m := 7) rfl ?_)
        refine A_take 1 rfl (by kernel_rfl) rfl hs (Y_ld 0 Tryz.isAgg3 rfl rfl rfl ?_)
        refine A_take 5 rfl (by kernel_rfl) rfl hs (Y_fieldAddr FO42_5 rfl (m := 8) rfl ?_)
        refine A_take 6 rfl (by kernel_rfl) rfl hs (Y_ld 0 Tryz.isAgg3 rfl rfl rfl ?_)
        have hle := hs.le
        refine A_only 2 rfl (by kernel_rfl) rfl (S_call (H1 := []) hs rfl Tryz.func87 rfl (by kernel_rfl) (rnumt_ok (n := a) (by omega)) fun v2 G' H' _ hR hG37 hs => ?_)
        obtain ⟨rfl, rfl⟩ := hR
        replace hs : St _ _ [_] _ := hs
        refine A_moreS hs hle hG37 (List.Sublist.refl _) ?_
        refine A_take 3 rfl (by kernel_rfl) rfl hs (Y_cat rfl rfl (by have h9 := digT_len a; simp only [List.length_append, List.length_cons, List.length_nil]; omega) ?_)
        refine A_take 4 rfl (by kernel_rfl) rfl hs (Y_cat rfl rfl (by have h9 := digT_len a; simp only [List.length_append, List.length_cons, List.length_nil]; omega) ?_)
        obtain ⟨b, rfl⟩ : ∃ b : Nat, mx = (b : Int) := Int.eq_ofNat_of_zero_le (by omega)
        have hle := hs.le
        refine A_only 7 rfl (by kernel_rfl) rfl (S_call (H1 := []) hs rfl Tryz.func87 rfl (by kernel_rfl) (rnumt_ok (n := b) (by omega)) fun v3 G' H' _ hR hG42 hs => ?_)
        obtain ⟨rfl, rfl⟩ := hR
        replace hs : St _ _ [_] _ := hs
        refine A_moreS hs hle hG42 (List.Sublist.refl _) ?_
        refine A_take 8 rfl (by kernel_rfl) rfl hs (Y_cat rfl rfl (by have h9 := digT_len a; have h8 := digT_len b; simp only [List.length_append, List.length_cons, List.length_nil]; omega) ?_)
        refine A_take 9 rfl (by kernel_rfl) rfl hs (Y_cat rfl rfl (by have h9 := digT_len a; have h8 := digT_len b; simp only [List.length_append, List.length_cons, List.length_nil]; omega) ?_)
        refine A_take 10 rfl (by kernel_rfl) rfl hs (Y_assign rfl ?_)
        refine A_done (by kernel_rfl) (T_kp [2] rfl ?_)
        refine T_ret ?_
        refine Rt_fin (vs := [_]) Tryz.results65 rfl ⟨rfl, trivial⟩ ?_
        try dsimp only [tup]
        exact ⟨_, [], hs.done, rfl, by unfold sufT; rw [if_neg (by omega), if_neg (by omega), if_neg (by omega), if_neg (by omega)]; simp⟩
     ·
      dsimp only [cmpP] at h21
      refine O_m rfl ?_
      refine O_no 22 rfl rfl ?_
      refine O_no 22 rfl rfl ?_
      refine O_no 22 rfl rfl ?_
      refine O_y hs (Y_pickF rfl rfl ?_)
      refine O_nil (T_kp [1, 26] rfl ?_)
      refine T_condF rfl (T_skip ?_)
      refine T_seq (T_seq (T_region rfl ?_))
      refine O_y hs (Y_fieldAddr FO42_5 rfl (m := 8) rfl ?_)
      refine O_y hs (Y_ld 0 Tryz.isAgg3 rfl rfl rfl ?_)
      refine O_y hs (Y_cmpS rfl rfl rfl (fun h29 => ?_) (fun h29 => ?_))
      ·
       dsimp only [cmpP] at h29
       refine O_nil (T_kp [1, 29] rfl ?_)
       refine T_condT rfl (T_seq (T_region rfl ?_))
       refine O_y hs (Y_fieldAddr FO42_4 rfl (m := 7) rfl ?_)
       refine O_y hs (Y_ld 0 Tryz.isAgg3 rfl rfl rfl ?_)
       refine O_s (S_call (H1 := []) hs rfl Tryz.func87 rfl (by kernel_rfl) (rnumt_ok (n := a) (by omega)) fun v4 G' H' _ hR hG32 hs => ?_)
       obtain ⟨rfl, rfl⟩ := hR
       replace hs : St _ _ [_] _ := hs
       refine O_y hs (Y_cat rfl rfl (by have h9 := digT_len a; simp only [List.length_append, List.length_cons, List.length_nil]; omega) ?_)
       refine O_y hs (Y_cat rfl rfl (by have h9 := digT_len a; simp only [List.length_append, List.length_cons, List.length_nil]; omega) ?_)
       refine O_a rfl ?_
       refine O_nil (T_kp [2] rfl ?_)
       refine T_ret ?_
       refine Rt_fin (vs := [_]) Tryz.results65 rfl ⟨rfl, trivial⟩ ?_
       try dsimp only [tup]
       exact ⟨_, [], hs.done, rfl, by unfold sufT; rw [if_neg (by omega), if_neg (by omega), if_neg (by omega), if_pos (by omega)]; simp⟩
      ·
       dsimp only [cmpP] at h29
       refine O_nil (T_kp [1, 29] rfl ?_)
       refine T_condF rfl (T_skip ?_)
       refine T_seq (T_drawS [0, 1, 2, 3, 4, 5, 6, 7, 8, 9, 10] hs (by kernel_rfl) ?_)
       replace hs := hs.drew
       refine A_take 0 rfl (by kernel_rfl) rfl hs (Y_fieldAddr FO42_4 rfl (m := 7) rfl ?_)
       refine A_take 1 rfl (by kernel_rfl) rfl hs (Y_ld 0 Tryz.isAgg3 rfl rfl rfl ?_)
       refine A_take 5 rfl (by kernel_rfl) rfl hs (Y_fieldAddr FO42_5 rfl (m := 8) rfl ?_)
       refine A_take 6 rfl (by kernel_rfl) rfl hs (Y_ld 0 Tryz.isAgg3 rfl rfl rfl ?_)
       have hle := hs.le
       refine A_only 2 rfl (by kernel_rfl) rfl (S_call (H1 := []) hs rfl Tryz.func87 rfl (by kernel_rfl) (rnumt_ok (n := a) (by omega)) fun v5 G' H' _ hR hG37 hs => ?_)
       obtain ⟨rfl, rfl⟩ := hR
       replace hs : St _ _ [_] _ := hs
       refine A_moreS hs hle hG37 (List.Sublist.refl _) ?_
       refine A_take 3 rfl (by kernel_rfl) rfl hs (Y_cat rfl rfl (by have h9 := digT_len a; simp only [List.length_append, List.length_cons, List.length_nil]; omega) ?_)
       refine A_take 4 rfl (by kernel_rfl) rfl hs (Y_cat rfl rfl (by have h9 := digT_len a; simp only [List.length_append, List.length_cons, List.length_nil]; omega) ?_)
       obtain ⟨b, rfl⟩ : ∃ b : Nat, mx = (b : Int) := Int.eq_ofNat_of_zero_le (by omega)
       have hle := hs.le
       refine A_only 7 rfl (by kernel_rfl) rfl (S_call (H1 := []) hs rfl Tryz.func87 rfl (by kernel_rfl) (rnumt_ok (n := b) (by omega)) fun v6 G' H' _ hR hG42 hs => ?_)
       obtain ⟨rfl, rfl⟩ := hR
       replace hs : St _ _ [_] _ := hs
       refine A_moreS hs hle hG42 (List.Sublist.refl _) ?_
       refine A_take 8 rfl (by kernel_rfl) rfl hs (Y_cat rfl rfl (by have h9 := digT_len a; have h8 := digT_len b; simp only [List.length_append, List.length_cons, List.length_nil]; omega) ?_)
       refine A_take 9 rfl (by kernel_rfl) rfl hs (Y_cat rfl rfl (by have h9 := digT_len a; have h8 := digT_len b; simp only [List.length_append, List.length_cons, List.length_nil]; omega) ?_)
       refine A_take 10 rfl (by kernel_rfl) rfl hs (Y_assign rfl ?_)
       refine A_done (by kernel_rfl) (T_kp [2] rfl ?_)
       refine T_ret ?_
       refine Rt_fin (vs := [_]) Tryz.results65 rfl ⟨rfl, trivial⟩ ?_
       try dsimp only [tup]
       exact ⟨_, [], hs.done, rfl, by unfold sufT; rw [if_neg (by omega), if_neg (by omega), if_neg (by omega), if_neg (by omega)]; simp⟩
   ·
    dsimp only [cmpP] at h13
    refine O_m rfl ?_
    refine O_no 14 rfl rfl ?_
    refine O_no 14 rfl rfl ?_
    refine O_no 14 rfl rfl ?_
    refine O_y hs (Y_pickF rfl rfl ?_)
    refine O_nil (T_kp [1, 18] rfl ?_)
    refine T_condF rfl (T_skip ?_)
    refine T_seq (T_seq (T_region rfl ?_))
    refine O_y hs (Y_fieldAddr FO42_4 rfl (m := 7) rfl ?_)
    refine O_y hs (Y_ld 0 Tryz.isAgg3 rfl rfl rfl ?_)
    refine O_y hs (Y_cmpS rfl rfl rfl (fun h21 => ?_) (fun h21 => ?_))
    ·
     dsimp only [cmpP] at h21
     refine O_m rfl ?_
     refine O_yy 22 hs rfl rfl (Y_fieldAddr FO42_5 rfl (m := 8) rfl ?_)
     refine O_yy 22 hs rfl rfl (Y_ld 0 Tryz.isAgg3 rfl rfl rfl ?_)
     refine O_yy 22 hs rfl rfl (Y_cmpS rfl rfl rfl (fun h25 => ?_) (fun h25 => ?_))
     ·
      dsimp only [cmpP] at h25
      refine O_y hs (Y_pickT rfl rfl ?_)
      refine O_nil (T_kp [1, 26] rfl ?_)
      refine T_condT rfl (T_seq (T_region rfl ?_))
      refine O_a rfl ?_
      refine O_nil (T_kp [2] rfl ?_)
      refine T_ret ?_
      refine Rt_fin (vs := [_]) Tryz.results65 rfl ⟨rfl, trivial⟩ ?_
      try dsimp only [tup]
      exact ⟨_, [], hs.done, rfl, by unfold sufT; rw [if_neg (by omega), if_neg (by omega), if_pos (by omega)]; try rfl⟩
     ·
      dsimp only [cmpP] at h25
      refine O_y hs (Y_pickT rfl rfl ?_)
      refine O_nil (T_kp [1, 26] rfl ?_)
      refine T_condF rfl (T_skip ?_)
      refine T_seq (T_seq (T_region rfl ?_))
      refine O_y hs (Y_fieldAddr FO42_5 rfl (m := 8) rfl ?_)
      refine O_y hs (Y_ld 0 Tryz.isAgg3 rfl rfl rfl ?_)
      refine O_y hs (Y_cmpS rfl rfl rfl (fun h29 => ?_) (fun h29 => ?_))
      ·
       dsimp only [cmpP] at h29
       refine O_nil (T_kp [1, 29] rfl ?_)
       refine T_condT rfl (T_seq (T_region rfl ?_))
       refine O_y hs (Y_fieldAddr FO42_4 rfl (m := 7) rfl ?_)
       refine O_y hs (Y_ld 0 Tryz.isAgg3 rfl rfl rfl ?_)
       refine O_s (S_call (H1 := []) hs rfl Tryz.func87 rfl (by kernel_rfl) (rnumt_ok (n := a) (by omega)) fun v7 G' H' _ hR hG32 hs => ?_)
       obtain ⟨rfl, rfl⟩ := hR
       replace hs : St _ _ [_] _ := hs
       refine O_y hs (Y_cat rfl rfl (by have h9 := digT_len a; simp only [List.length_append, List.length_cons, List.length_nil]; omega) ?_)
       refine O_y hs (Y_cat rfl rfl (by have h9 := digT_len a; simp only [List.length_append, List.length_cons, List.length_nil]; omega) ?_)
       refine O_a rfl ?_
       refine O_nil (T_kp [2] rfl ?_)
       refine T_ret ?_
       refine Rt_fin (vs := [_]) Tryz.results65 rfl ⟨rfl, trivial⟩ ?_
       try dsimp only [tup]
       exact ⟨_, [], hs.done, rfl, by unfold sufT; rw [if_neg (by omega), if_neg (by omega), if_neg (by omega), if_pos (by omega)]; simp⟩
      ·
       dsimp only [cmpP] at h29
       refine O_nil (T_kp [1, 29] rfl ?_)
       refine T_condF rfl (T_skip ?_)
       refine T_seq (T_drawS [0, 1, 2, 3, 4, 5, 6, 7, 8, 9, 10] hs (by kernel_rfl) ?_)
       replace hs := hs.drew
       refine A_take 0 rfl (by kernel_rfl) rfl hs (Y_fieldAddr FO42_4 rfl (m := 7) rfl ?_)
       refine A_take 1 rfl (by kernel_rfl) rfl hs (Y_ld 0 Tryz.isAgg3 rfl rfl rfl ?_)
       refine A_take 5 rfl (by kernel_rfl) rfl hs (Y_fieldAddr FO42_5 rfl (m := 8) rfl ?_)
       refine A_take 6 rfl (by kernel_rfl) rfl hs (Y_ld 0 Tryz.isAgg3 rfl rfl rfl ?_)
       have hle := hs.le
       refine A_only 2 rfl (by kernel_rfl) rfl (S_call (H1 := []) hs rfl Tryz.func87 rfl (by kernel_rfl) (rnumt_ok (n := a) (by omega)) fun v8 G' H' _ hR hG37 hs => ?_)
       obtain ⟨rfl, rfl⟩ := hR
       replace hs : St _ _ [_] _ := hs
       refine A_moreS hs hle hG37 (List.Sublist.refl _) ?_
       refine A_take 3 rfl (by kernel_rfl) rfl hs (Y_cat rfl rfl (by have h9 := digT_len a; simp only [List.length_append, List.length_cons, List.length_nil]; omega) ?_)
       refine A_take 4 rfl (by kernel_rfl) rfl hs (Y_cat rfl rfl (by have h9 := digT_len a; simp only [List.length_append, List.length_cons, List.length_nil]; omega) ?_)
       obtain ⟨b, rfl⟩ : ∃ b : Nat, mx = (b : Int) := Int.eq_ofNat_of_zero_le (by omega)
       have hle := hs.le
       refine A_only 7 rfl (by kernel_rfl) rfl (S_call (H1 := []) hs rfl Tryz.func87 rfl (by kernel_rfl) (rnumt_ok (n := b) (by omega)) fun v9 G' H' _ hR hG42 hs => ?_)
       obtain ⟨rfl, rfl⟩ := hR
       replace hs : St _ _ [_] _ := hs
       refine A_moreS hs hle hG42 (List.Sublist.refl _) ?_
       refine A_take 8 rfl (by kernel_rfl) rfl hs (Y_cat rfl rfl (by have h9 := digT_len a; have h8 := digT_len b; simp only [List.length_append, List.length_cons, List.length_nil]; omega) ?_)
       refine A_take 9 rfl (by kernel_rfl) rfl hs (Y_cat rfl rfl (by have h9 := digT_len a; have h8 := digT_len b; simp only [List.length_append, List.length_cons, List.length_nil]; omega) ?_)
       refine A_take 10 rfl (by kernel_rfl) rfl hs (Y_assign rfl ?_)
       refine A_done (by kernel_rfl) (T_kp [2] rfl ?_)
       refine T_ret ?_
       refine Rt_fin (vs := [_]) Tryz.results65 rfl ⟨rfl, trivial⟩ ?_
       try dsimp only [tup]
       exact ⟨_, [], hs.done, rfl, by unfold sufT; rw [if_neg (by omega), if_neg (by omega), if_neg (by omega), if_neg (by omega)]; simp⟩
    ·
     dsimp only [cmpP] at h21
     refine O_m rfl ?_
     refine O_no 22 rfl rfl ?_
     refine O_no 22 rfl rfl ?_
     refine O_no 22 rfl rfl ?_
     refine O_y hs (Y_pickF rfl rfl ?_)
     refine O_nil (T_kp [1, 26] rfl ?_)
     refine T_condF rfl (T_skip ?_)
     refine T_seq (T_seq (T_region rfl ?_))
     refine O_y hs (Y_fieldAddr FO42_5 rfl (m := 8) rfl ?_)
     refine O_y hs (Y_ld 0 Tryz.isAgg3 rfl rfl rfl ?_)
     refine O_y hs (Y_cmpS rfl rfl rfl (fun h29 => ?_) (fun h29 => ?_))
     ·
      dsimp only [cmpP] at h29
      refine O_nil (T_kp [1, 29] rfl ?_)
      refine T_condT rfl (T_seq (T_region rfl ?_))
      refine O_y hs (Y_fieldAddr FO42_4 rfl (m := 7) rfl ?_)
      refine O_y hs (Y_ld 0 Tryz.isAgg3 rfl rfl rfl ?_)
      refine O_s (S_call (H1 := []) hs rfl Tryz.func87 rfl (by kernel_rfl) (rnumt_ok (n := a) (by omega)) fun v10 G' H' _ hR hG32 hs => ?_)
      obtain ⟨rfl, rfl⟩ := hR
      replace hs : St _ _ [_] _ := hs
      refine O_y hs (Y_cat rfl rfl (by have h9 := digT_len a; simp only [List.length_append, List.length_cons, List.length_nil]; omega) ?_)
      refine O_y hs (Y_cat rfl rfl (by have h9 := digT_len a; simp only [List.length_append, List.length_cons, List.length_nil]; omega) ?_)
      refine O_a rfl ?_
      refine O_nil (T_kp [2] rfl ?_)
      refine T_ret ?_
      refine Rt_fin (vs := [_]) Tryz.results65 rfl ⟨rfl, trivial⟩ ?_
      try dsimp only [tup]
      exact ⟨_, [], hs.done, rfl, by unfold sufT; rw [if_neg (by omega), if_neg (by omega), if_neg (by omega), if_pos (by omega)]; simp⟩
     ·
      dsimp only [cmpP] at h29
      refine O_nil (T_kp [1, 29] rfl ?_)
      refine T_condF rfl (T_skip ?_)
      refine T_seq (T_drawS [0, 1, 2, 3, 4, 5, 6, 7, 8, 9, 10] hs (by kernel_rfl) ?_)
      replace hs := hs.drew
      refine A_take 0 rfl (by kernel_rfl) rfl hs (Y_fieldAddr FO42_4 rfl (m := 7) rfl ?_)
      refine A_take 1 rfl (by kernel_rfl) rfl hs (Y_ld 0 Tryz.isAgg3 rfl rfl rfl ?_)
      refine A_take 5 rfl (by kernel_rfl) rfl hs (Y_fieldAddr FO42_5 rfl (m := 8) rfl ?_)
      refine A_take 6 rfl (by kernel_rfl) rfl hs (Y_ld 0 Tryz.isAgg3 rfl rfl rfl ?_)
      have hle := hs.le
      refine A_only 2 rfl (by kernel_rfl) rfl (S_call (H1 := []) hs rfl Tryz.func87 rfl (by kernel_rfl) (rnumt_ok (n := a) (by omega)) fun v11 G' H' _ hR hG37 hs => ?_)
      obtain ⟨rfl, rfl⟩ := hR
      replace hs : St _ _ [_] _ := hs
      refine A_moreS hs hle hG37 (List.Sublist.refl _) ?_
      refine A_take 3 rfl (by kernel_rfl) rfl hs (Y_cat rfl rfl (by have h9 := digT_len a; simp only [List.length_append, List.length_cons, List.length_nil]; omega) ?_)
      refine A_take 4 rfl (by kernel_rfl) rfl hs (Y_cat rfl rfl (by have h9 := digT_len a; simp only [List.length_append, List.length_cons, List.length_nil]; omega) ?_)
      obtain ⟨b, rfl⟩ : ∃ b : Nat, mx = (b : Int) := Int.eq_ofNat_of_zero_le (by omega)
      have hle := hs.le
      refine A_only 7 rfl (by kernel_rfl) rfl (S_call (H1 := []) hs rfl Tryz.func87 rfl (by kernel_rfl) (rnumt_ok (n := b) (by omega)) fun v12 G' H' _ hR hG42 hs => ?_)
      obtain ⟨rfl, rfl⟩ := hR
      replace hs : St _ _ [_] _ := hs
      refine A_moreS hs hle hG42 (List.Sublist.refl _) ?_
      refine A_take 8 rfl (by kernel_rfl) rfl hs (Y_cat rfl rfl (by have h9 := digT_len a; have h8 := digT_len b; simp only [List.length_append, List.length_cons, List.length_nil]; omega) ?_)
      refine A_take 9 rfl (by kernel_rfl) rfl hs (Y_cat rfl rfl (by have h9 := digT_len a; have h8 := digT_len b; simp only [List.length_append, List.length_cons, List.length_nil]; omega) ?_)
      refine A_take 10 rfl (by kernel_rfl) rfl hs (Y_assign rfl ?_)
      refine A_done (by kernel_rfl) (T_kp [2] rfl ?_)
      refine T_ret ?_
      refine Rt_fin (vs := [_]) Tryz.results65 rfl ⟨rfl, trivial⟩ ?_
      try dsimp only [tup]
      exact ⟨_, [], hs.done, rfl, by unfold sufT; rw [if_neg (by omega), if_neg (by omega), if_neg (by omega), if_neg (by omega)]; simp⟩
 ·
  dsimp only [cmpP] at h5
  refine O_m rfl ?_
  refine O_no 6 rfl rfl ?_
  refine O_no 6 rfl rfl ?_
  refine O_no 6 rfl rfl ?_
  refine O_y hs (Y_pickF rfl rfl ?_)
  refine O_nil (T_kp [1, 10] rfl ?_)
  refine T_condF rfl (T_skip ?_)
  refine T_seq (T_seq (T_region rfl ?_))
  refine O_y hs (Y_fieldAddr FO42_4 rfl (m := 7) rfl ?_)
  refine O_y hs (Y_ld 0 Tryz.isAgg3 rfl rfl rfl ?_)
  refine O_y hs (Y_cmpS rfl rfl rfl (fun h13 => ?_) (fun h13 => ?_))
  ·
   dsimp only [cmpP] at h13
   refine O_m rfl ?_
   refine O_yy 14 hs rfl rfl (Y_fieldAddr FO42_5 rfl (m := 8) rfl ?_)
   refine O_yy 14 hs rfl rfl (Y_ld 0 Tryz.isAgg3 rfl rfl rfl ?_)
   refine O_yy 14 hs rfl rfl (Y_cmpS rfl rfl rfl (fun h17 => ?_) (fun h17 => ?_))
   ·
    dsimp only [cmpP] at h17
    refine O_y hs (Y_pickT rfl rfl ?_)
    refine O_nil (T_kp [1, 18] rfl ?_)
    refine T_condT rfl (T_seq (T_region rfl ?_))
    refine O_a rfl ?_
    refine O_nil (T_kp [2] rfl ?_)
    refine T_ret ?_
    refine Rt_fin (vs := [_]) Tryz.results65 rfl ⟨rfl, trivial⟩ ?_
    try dsimp only [tup]
    exact ⟨_, [], hs.done, rfl, by unfold sufT; rw [if_neg (by omega), if_pos (by omega)]; try rfl⟩
   ·
    dsimp only [cmpP] at h17
    refine O_y hs (Y_pickT rfl rfl ?_)
    refine O_nil (T_kp [1, 18] rfl ?_)
    refine T_condF rfl (T_skip ?_)
    refine T_seq (T_seq (T_region rfl ?_))
    refine O_y hs (Y_fieldAddr FO42_4 rfl (m := 7) rfl ?_)
    refine O_y hs (Y_ld 0 Tryz.isAgg3 rfl rfl rfl ?_)
    refine O_y hs (Y_cmpS rfl rfl rfl (fun h21 => ?_) (fun h21 => ?_))
    ·
     dsimp only [cmpP] at h21
     refine O_m rfl ?_
     refine O_yy 22 hs rfl rfl (Y_fieldAddr FO42_5 rfl (m := 8) rfl ?_)
     refine O_yy 22 hs rfl rfl (Y_ld 0 Tryz.isAgg3 rfl rfl rfl ?_)
     refine O_yy 22 hs rfl rfl (Y_cmpS rfl rfl rfl (fun h25 => ?_) (fun h25 => ?_))
     ·
      dsimp only [cmpP] at h25
      refine O_y hs (Y_pickT rfl rfl ?_)
      refine O_nil (T_kp [1, 26] rfl ?_)
      refine T_condT rfl (T_seq (T_region rfl ?_))
      refine O_a rfl ?_
      refine O_nil (T_kp [2] rfl ?_)
      refine T_ret ?_
      refine Rt_fin (vs := [_]) Tryz.results65 rfl ⟨rfl, trivial⟩ ?_
      try dsimp only [tup]
      exact ⟨_, [], hs.done, rfl, by unfold sufT; rw [if_neg (by omega), if_neg (by omega), if_pos (by omega)]; try rfl⟩
     ·
      dsimp only [cmpP] at h25
      refine O_y hs (Y_pickT rfl rfl ?_)
      refine O_nil (T_kp [1, 26] rfl ?_)
      refine T_condF rfl (T_skip ?_)
      refine T_seq (T_seq (T_region rfl ?_))
      refine O_y hs (Y_fieldAddr FO42_5 rfl (m := 8) rfl ?_)
      refine O_y hs (Y_ld 0 Tryz.isAgg3 rfl rfl rfl ?_)
      refine O_y hs (Y_cmpS rfl rfl rfl (fun h29 => ?_) (fun h29 => ?_))
      ·
       dsimp only [cmpP] at h29
       refine O_nil (T_kp [1, 29] rfl ?_)
       refine T_condT rfl (T_seq (T_region rfl ?_))
       refine O_y hs (Y_fieldAddr FO42_4 rfl (m := 7) rfl ?_)
       refine O_y hs (Y_ld 0 Tryz.isAgg3 rfl rfl rfl ?_)
       refine O_s (S_call (H1 := []) hs rfl Tryz.func87 rfl (by kernel_rfl) (rnumt_ok (n := a) (by omega)) fun v13 G' H' _ hR hG32 hs => ?_)
       obtain ⟨rfl, rfl⟩ := hR
       replace hs : St _ _ [_] _ := hs
       refine O_y hs (Y_cat rfl rfl (by have h9 := digT_len a; simp only [List.length_append, List.length_cons, List.length_nil]; omega) ?_)
       refine O_y hs (Y_cat rfl rfl (by have h9 := digT_len a; simp only [List.length_append, List.length_cons, List.length_nil]; omega) ?_)
       refine O_a rfl ?_
       refine O_nil (T_kp [2] rfl ?_)
       refine T_ret ?_
       refine Rt_fin (vs := [_]) Tryz.results65 rfl ⟨rfl, trivial⟩ ?_
       try dsimp only [tup]
       exact ⟨_, [], hs.done, rfl, by unfold sufT; rw [if_neg (by omega), if_neg (by omega), if_neg (by omega), if_pos (by omega)]; simp⟩
      ·
       dsimp only [cmpP] at h29
       refine O_nil (T_kp [1, 29] rfl ?_)
       refine T_condF rfl (T_skip ?_)
       refine T_seq (T_drawS [0, 1, 2, 3, 4, 5, 6, 7, 8, 9, 10] hs (by kernel_rfl) ?_)
       replace hs := hs.drew
       refine A_take 0 rfl (by kernel_rfl) rfl hs (Y_fieldAddr FO42_4 rfl (m := 7) rfl ?_)
       refine A_take 1 rfl (by kernel_rfl) rfl hs (Y_ld 0 Tryz.isAgg3 rfl rfl rfl ?_)
       refine A_take 5 rfl (by kernel_rfl) rfl hs (Y_fieldAddr FO42_5 rfl (m := 8) rfl ?_)
       refine A_take 6 rfl (by kernel_rfl) rfl hs (Y_ld 0 Tryz.isAgg3 rfl rfl rfl ?_)
       have hle := hs.le
       refine A_only 2 rfl (by kernel_rfl) rfl (S_call (H1 := []) hs rfl Tryz.func87 rfl (by kernel_rfl) (rnumt_ok (n := a) (by omega)) fun v14 G' H' _ hR hG37 hs => ?_)
       obtain ⟨rfl, rfl⟩ := hR
       replace hs : St _ _ [_] _ := hs
       refine A_moreS hs hle hG37 (List.Sublist.refl _) ?_
       refine A_take 3 rfl (by kernel_rfl) rfl hs (Y_cat rfl rfl (by have h9 := digT_len a; simp only [List.length_append, List.length_cons, List.length_nil]; omega) ?_)
       refine A_take 4 rfl (by kernel_rfl) rfl hs (Y_cat rfl rfl (by have h9 := digT_len a; simp only [List.length_append, List.length_cons, List.length_nil]; omega) ?_)
       obtain ⟨b, rfl⟩ : ∃ b : Nat, mx = (b : Int) := Int.eq_ofNat_of_zero_le (by omega)
       have hle := hs.le
       refine A_only 7 rfl (by kernel_rfl) rfl (S_call (H1 := []) hs rfl Tryz.func87 rfl (by kernel_rfl) (rnumt_ok (n := b) (by omega)) fun v15 G' H' _ hR hG42 hs => ?_)
       obtain ⟨rfl, rfl⟩ := hR
       replace hs : St _ _ [_] _ := hs
       refine A_moreS hs hle hG42 (List.Sublist.refl _) ?_
       refine A_take 8 rfl (by kernel_rfl) rfl hs (Y_cat rfl rfl (by have h9 := digT_len a; have h8 := digT_len b; simp only [List.length_append, List.length_cons, List.length_nil]; omega) ?_)
       refine A_take 9 rfl (by kernel_rfl) rfl hs (Y_cat rfl rfl (by have h9 := digT_len a; have h8 := digT_len b; simp only [List.length_append, List.length_cons, List.length_nil]; omega) ?_)
       refine A_take 10 rfl (by kernel_rfl) rfl hs (Y_assign rfl ?_)
       refine A_done (by kernel_rfl) (T_kp [2] rfl ?_)
       refine T_ret ?_
       refine Rt_fin (vs := [_]) Tryz.results65 rfl ⟨rfl, trivial⟩ ?_
       try dsimp only [tup]
       exact ⟨_, [], hs.done, rfl, by unfold sufT; rw [if_neg (by omega), if_neg (by omega), if_neg (by omega), if_neg (by omega)]; simp⟩
    ·
     dsimp only [cmpP] at h21
     refine O_m rfl ?_
     refine O_no 22 rfl rfl ?_
     refine O_no 22 rfl rfl ?_
     refine O_no 22 rfl rfl ?_
     refine O_y hs (Y_pickF rfl rfl ?_)
     refine O_nil (T_kp [1, 26] rfl ?_)
     refine T_condF rfl (T_skip ?_)
     refine T_seq (T_seq (T_region rfl ?_))
     refine O_y hs (Y_fieldAddr FO42_5 rfl (m := 8) rfl ?_)
     refine O_y hs (Y_ld 0 Tryz.isAgg3 rfl rfl rfl ?_)
     refine O_y hs (Y_cmpS rfl rfl rfl (fun h29 => ?_) (fun h29 => ?_))
     ·
      dsimp only [cmpP] at h29
      refine O_nil (T_kp [1, 29] rfl ?_)
      refine T_condT rfl (T_seq (T_region rfl ?_))
      refine O_y hs (Y_fieldAddr FO42_4 rfl (m := 7) rfl ?_)
      refine O_y hs (Y_ld 0 Tryz.isAgg3 rfl rfl rfl ?_)
      refine O_s (S_call (H1 := []) hs rfl Tryz.func87 rfl (by kernel_rfl) (rnumt_ok (n := a) (by omega)) fun v16 G' H' _ hR hG32 hs => ?_)
      obtain ⟨rfl, rfl⟩ := hR
      replace hs : St _ _ [_] _ := hs
      refine O_y hs (Y_cat rfl rfl (by have h9 := digT_len a; simp only [List.length_append, List.length_cons, List.length_nil]; omega) ?_)
      refine O_y hs (Y_cat rfl rfl (by have h9 := digT_len a; simp only [List.length_append, List.length_cons, List.length_nil]; omega) ?_)
      refine O_a rfl ?_
      refine O_nil (T_kp [2] rfl ?_)
      refine T_ret ?_
      refine Rt_fin (vs := [_]) Tryz.results65 rfl ⟨rfl, trivial⟩ ?_
      try dsimp only [tup]
      exact ⟨_, [], hs.done, rfl, by unfold sufT; rw [if_neg (by omega), if_neg (by omega), if_neg (by omega), if_pos (by omega)]; simp⟩
     ·
      dsimp only [cmpP] at h29
      refine O_nil (T_kp [1, 29] rfl ?_)
      refine T_condF rfl (T_skip ?_)
      refine T_seq (T_drawS [0, 1, 2, 3, 4, 5, 6, 7, 8, 9, 10] hs (by kernel_rfl) ?_)
      replace hs := hs.drew
      refine A_take 0 rfl (by kernel_rfl) rfl hs (Y_fieldAddr FO42_4 rfl (m := 7) rfl ?_)
      refine A_take 1 rfl (by kernel_rfl) rfl hs (Y_ld 0 Tryz.isAgg3 rfl rfl rfl ?_)
      refine A_take 5 rfl (by kernel_rfl) rfl hs (Y_fieldAddr FO42_5 rfl (m := 8) rfl ?_)
      refine A_take 6 rfl (by kernel_rfl) rfl hs (Y_ld 0 Tryz.isAgg3 rfl rfl rfl ?_)
      have hle := hs.le
      refine A_only 2 rfl (by kernel_rfl) rfl (S_call (H1 := []) hs rfl Tryz.func87 rfl (by kernel_rfl) (rnumt_ok (n := a) (by omega)) fun v17 G' H' _ hR hG37 hs => ?_)
      obtain ⟨rfl, rfl⟩ := hR
      replace hs : St _ _ [_] _ := hs
      refine A_moreS hs hle hG37 (List.Sublist.refl _) ?_
      refine A_take 3 rfl (by kernel_rfl) rfl hs (Y_cat rfl rfl (by have h9 := digT_len a; simp only [List.length_append, List.length_cons, List.length_nil]; omega) ?_)
      refine A_take 4 rfl (by kernel_rfl) rfl hs (Y_cat rfl rfl (by have h9 := digT_len a; simp only [List.length_append, List.length_cons, List.length_nil]; omega) ?_)
      obtain ⟨b, rfl⟩ : ∃ b : Nat, mx = (b : Int) := Int.eq_ofNat_of_zero_le (by omega)
      have hle := hs.le
      refine A_only 7 rfl (by kernel_rfl) rfl (S_call (H1 := []) hs rfl Tryz.func87 rfl (by kernel_rfl) (rnumt_ok (n := b) (by omega)) fun v18 G' H' _ hR hG42 hs => ?_)
      obtain ⟨rfl, rfl⟩ := hR
      replace hs : St _ _ [_] _ := hs
      refine A_moreS hs hle hG42 (List.Sublist.refl _) ?_
      refine A_take 8 rfl (by kernel_rfl) rfl hs (Y_cat rfl rfl (by have h9 := digT_len a; have h8 := digT_len b; simp only [List.length_append, List.length_cons, List.length_nil]; omega) ?_)
      refine A_take 9 rfl (by kernel_rfl) rfl hs (Y_cat rfl rfl (by have h9 := digT_len a; have h8 := digT_len b; simp only [List.length_append, List.length_cons, List.length_nil]; omega) ?_)
      refine A_take 10 rfl (by kernel_rfl) rfl hs (Y_assign rfl ?_)
      refine A_done (by kernel_rfl) (T_kp [2] rfl ?_)
      refine T_ret ?_
      refine Rt_fin (vs := [_]) Tryz.results65 rfl ⟨rfl, trivial⟩ ?_
      try dsimp only [tup]
      exact ⟨_, [], hs.done, rfl, by unfold sufT; rw [if_neg (by omega), if_neg (by omega), if_neg (by omega), if_neg (by omega)]; simp⟩
  ·
   dsimp only [cmpP] at h13
   refine O_m rfl ?_
   refine O_no 14 rfl rfl ?_
   refine O_no 14 rfl rfl ?_
   refine O_no 14 rfl rfl ?_
   refine O_y hs (Y_pickF rfl rfl ?_)
   refine O_nil (T_kp [1, 18] rfl ?_)
   refine T_condF rfl (T_skip ?_)
   refine T_seq (T_seq (T_region rfl ?_))
   refine O_y hs (Y_fieldAddr FO42_4 rfl (m := 7) rfl ?_)
   refine O_y hs (Y_ld 0 Tryz.isAgg3 rfl rfl rfl ?_)
   refine O_y hs (Y_cmpS rfl rfl rfl (fun h21 => ?_) (fun h21 => ?_))
   ·
    dsimp only [cmpP] at h21
    refine O_m rfl ?_
    refine O_yy 22 hs rfl rfl (Y_fieldAddr FO42_5 rfl (m := 8) rfl ?_)
    refine O_yy 22 hs rfl rfl (Y_ld 0 Tryz.isAgg3 rfl rfl rfl ?_)
    refine O_yy 22 hs rfl rfl (Y_cmpS rfl rfl rfl (fun h25 => ?_) (fun h25 => ?_))
    ·
     dsimp only [cmpP] at h25
     refine O_y hs (Y_pickT rfl rfl ?_)
     refine O_nil (T_kp [1, 26] rfl ?_)
     refine T_condT rfl (T_seq (T_region rfl ?_))
     refine O_a rfl ?_
     refine O_nil (T_kp [2] rfl ?_)
     refine T_ret ?_
     refine Rt_fin (vs := [_]) Tryz.results65 rfl ⟨rfl, trivial⟩ ?_
     try dsimp only [tup]
     exact ⟨_, [], hs.done, rfl, by unfold sufT; rw [if_neg (by omega), if_neg (by omega), if_pos (by omega)]; try rfl⟩
    ·
     dsimp only [cmpP] at h25
     refine O_y hs (Y_pickT rfl rfl ?_)
     refine O_nil (T_kp [1, 26] rfl ?_)
     refine T_condF rfl (T_skip ?_)
     refine T_seq (T_seq (T_region rfl ?_))
     refine O_y hs (Y_fieldAddr FO42_5 rfl (m := 8) rfl ?_)
     refine O_y hs (Y_ld 0 Tryz.isAgg3 rfl rfl rfl ?_)
     refine O_y hs (Y_cmpS rfl rfl rfl (fun h29 => ?_) (fun h29 => ?_))
     ·
      dsimp only [cmpP] at h29
      refine O_nil (T_kp [1, 29] rfl ?_)
      refine T_condT rfl (T_seq (T_region rfl ?_))
      refine O_y hs (Y_fieldAddr FO42_4 rfl (m := 7) rfl ?_)
      refine O_y hs (Y_ld 0 Tryz.isAgg3 rfl rfl rfl ?_)
      refine O_s (S_call (H1 := []) hs rfl Tryz.func87 rfl (by kernel_rfl) (rnumt_ok (n := a) (by omega)) fun v19 G' H' _ hR hG32 hs => ?_)
      obtain ⟨rfl, rfl⟩ := hR
      replace hs : St _ _ [_] _ := hs
      refine O_y hs (Y_cat rfl rfl (by have h9 := digT_len a; simp only [List.length_append, List.length_cons, List.length_nil]; omega) ?_)
      refine O_y hs (Y_cat rfl rfl (by have h9 := digT_len a; simp only [List.length_append, List.length_cons, List.length_nil]; omega) ?_)
      refine O_a rfl ?_
      refine O_nil (T_kp [2] rfl ?_)
      refine T_ret ?_
      refine Rt_fin (vs := [_]) Tryz.results65 rfl ⟨rfl, trivial⟩ ?_
      try dsimp only [tup]
      exact ⟨_, [], hs.done, rfl, by unfold sufT; rw [if_neg (by omega), if_neg (by omega), if_neg (by omega), if_pos (by omega)]; simp⟩
     ·
      dsimp only [cmpP] at h29
      refine O_nil (T_kp [1, 29] rfl ?_)
      refine T_condF rfl (T_skip ?_)
      refine T_seq (T_drawS [0, 1, 2, 3, 4, 5, 6, 7, 8, 9, 10] hs (by kernel_rfl) ?_)
      replace hs := hs.drew
      refine A_take 0 rfl (by kernel_rfl) rfl hs (Y_fieldAddr FO42_4 rfl (m := 7) rfl ?_)
      refine A_take 1 rfl (by kernel_rfl) rfl hs (Y_ld 0 Tryz.isAgg3 rfl rfl rfl ?_)
      refine A_take 5 rfl (by kernel_rfl) rfl hs (Y_fieldAddr FO42_5 rfl (m := 8) rfl ?_)
      refine A_take 6 rfl (by kernel_rfl) rfl hs (Y_ld 0 Tryz.isAgg3 rfl rfl rfl ?_)
      have hle := hs.le
      refine A_only 2 rfl (by kernel_rfl) rfl (S_call (H1 := []) hs rfl Tryz.func87 rfl (by kernel_rfl) (rnumt_ok (n := a) (by omega)) fun v20 G' H' _ hR hG37 hs => ?_)
      obtain ⟨rfl, rfl⟩ := hR
      replace hs : St _ _ [_] _ := hs
      refine A_moreS hs hle hG37 (List.Sublist.refl _) ?_
      refine A_take 3 rfl (by kernel_rfl) rfl hs (Y_cat rfl rfl (by have h9 := digT_len a; simp only [List.length_append, List.length_cons, List.length_nil]; omega) ?_)
      refine A_take 4 rfl (by kernel_rfl) rfl hs (Y_cat rfl rfl (by have h9 := digT_len a; simp only [List.length_append, List.length_cons, List.length_nil]; omega) ?_)
      obtain ⟨b, rfl⟩ : ∃ b : Nat, mx = (b : Int) := Int.eq_ofNat_of_zero_le (by omega)
      have hle := hs.le
      refine A_only 7 rfl (by kernel_rfl) rfl (S_call (H1 := []) hs rfl Tryz.func87 rfl (by kernel_rfl) (rnumt_ok (n := b) (by omega)) fun v21 G' H' _ hR hG42 hs => ?_)
      obtain ⟨rfl, rfl⟩ := hR
      replace hs : St _ _ [_] _ := hs
      refine A_moreS hs hle hG42 (List.Sublist.refl _) ?_
      refine A_take 8 rfl (by kernel_rfl) rfl hs (Y_cat rfl rfl (by have h9 := digT_len a; have h8 := digT_len b; simp only [List.length_append, List.length_cons, List.length_nil]; omega) ?_)
      refine A_take 9 rfl (by kernel_rfl) rfl hs (Y_cat rfl rfl (by have h9 := digT_len a; have h8 := digT_len b; simp only [List.length_append, List.length_cons, List.length_nil]; omega) ?_)
      refine A_take 10 rfl (by kernel_rfl) rfl hs (Y_assign rfl ?_)
      refine A_done (by kernel_rfl) (T_kp [2] rfl ?_)
      refine T_ret ?_
      refine Rt_fin (vs := [_]) Tryz.results65 rfl ⟨rfl, trivial⟩ ?_
      try dsimp only [tup]
      exact ⟨_, [], hs.done, rfl, by unfold sufT; rw [if_neg (by omega), if_neg (by omega), if_neg (by omega), if_neg (by omega)]; simp⟩
   ·
    dsimp only [cmpP] at h21
    refine O_m rfl ?_
    refine O_no 22 rfl rfl ?_
    refine O_no 22 rfl rfl ?_
    refine O_no 22 rfl rfl ?_
    refine O_y hs (Y_pickF rfl rfl ?_)
    refine O_nil (T_kp [1, 26] rfl ?_)
    refine T_condF rfl (T_skip ?_)
    refine T_seq (T_seq (T_region rfl ?_))
    refine O_y hs (Y_fieldAddr FO42_5 rfl (m := 8) rfl ?_)
    refine O_y hs (Y_ld 0 Tryz.isAgg3 rfl rfl rfl ?_)
    refine O_y hs (Y_cmpS rfl rfl rfl (fun h29 => ?_) (fun h29 => ?_))
    ·
     dsimp only [cmpP] at h29
     refine O_nil (T_kp [1, 29] rfl ?_)
     refine T_condT rfl (T_seq (T_region rfl ?_))
     refine O_y hs (Y_fieldAddr FO42_4 rfl (m := 7) rfl ?_)
     refine O_y hs (Y_ld 0 Tryz.isAgg3 rfl rfl rfl ?_)
     refine O_s (S_call (H1 := []) hs rfl Tryz.func87 rfl (by kernel_rfl) (rnumt_ok (n := a) (by omega)) fun v22 G' H' _ hR hG32 hs => ?_)
     obtain ⟨rfl, rfl⟩ := hR
     replace hs : St _ _ [_] _ := hs
     refine O_y hs (Y_cat rfl rfl (by have h9 := digT_len a; simp only [List.length_append, List.length_cons, List.length_nil]; omega) ?_)
     refine O_y hs (Y_cat rfl rfl (by have h9 := digT_len a; simp only [List.length_append, List.length_cons, List.length_nil]; omega) ?_)
     refine O_a rfl ?_
     refine O_nil (T_kp [2] rfl ?_)
     refine T_ret ?_
     refine Rt_fin (vs := [_]) Tryz.results65 rfl ⟨rfl, trivial⟩ ?_
     try dsimp only [tup]
     exact ⟨_, [], hs.done, rfl, by unfold sufT; rw [if_neg (by omega), if_neg (by omega), if_neg (by omega), if_pos (by omega)]; simp⟩
    ·
     dsimp only [cmpP] at h29
     refine O_nil (T_kp [1, 29] rfl ?_)
     refine T_condF rfl (T_skip ?_)
     refine T_seq (T_drawS [0, 1, 2, 3, 4, 5, 6, 7, 8, 9, 10] hs (by kernel_rfl) ?_)
     replace hs := hs.drew
     refine A_take 0 rfl (by kernel_rfl) rfl hs (Y_fieldAddr FO42_4 rfl (m := 7) rfl ?_)
     refine A_take 1 rfl (by kernel_rfl) rfl hs (Y_ld 0 Tryz.isAgg3 rfl rfl rfl ?_)
     refine A_take 5 rfl (by kernel_rfl) rfl hs (Y_fieldAddr FO42_5 rfl (m := 8) rfl ?_)
     refine A_take 6 rfl (by kernel_rfl) rfl hs (Y_ld 0 Tryz.isAgg3 rfl rfl rfl ?_)
     have hle := hs.le
     refine A_only 2 rfl (by kernel_rfl) rfl (S_call (H1 := []) hs rfl Tryz.func87 rfl (by kernel_rfl) (rnumt_ok (n := a) (by omega)) fun v23 G' H' _ hR hG37 hs => ?_)
     obtain ⟨rfl, rfl⟩ := hR
     replace hs : St _ _ [_] _ := hs
     refine A_moreS hs hle hG37 (List.Sublist.refl _) ?_
     refine A_take 3 rfl (by kernel_rfl) rfl hs (Y_cat rfl rfl (by have h9 := digT_len a; simp only [List.length_append, List.length_cons, List.length_nil]; omega) ?_)
     refine A_take 4 rfl (by kernel_rfl) rfl hs (Y_cat rfl rfl (by have h9 := digT_len a; simp only [List.length_append, List.length_cons, List.length_nil]; omega) ?_)
     obtain ⟨b, rfl⟩ : ∃ b : Nat, mx = (b : Int) := Int.eq_ofNat_of_zero_le (by omega)
     have hle := hs.le
     refine A_only 7 rfl (by kernel_rfl) rfl (S_call (H1 := []) hs rfl Tryz.func87 rfl (by kernel_rfl) (rnumt_ok (n := b) (by omega)) fun v24 G' H' _ hR hG42 hs => ?_)
     obtain ⟨rfl, rfl⟩ := hR
     replace hs : St _ _ [_] _ := hs
     refine A_moreS hs hle hG42 (List.Sublist.refl _) ?_
     refine A_take 8 rfl (by kernel_rfl) rfl hs (Y_cat rfl rfl (by have h9 := digT_len a; have h8 := digT_len b; simp only [List.length_append, List.length_cons, List.length_nil]; omega) ?_)
     refine A_take 9 rfl (by kernel_rfl) rfl hs (Y_cat rfl rfl (by have h9 := digT_len a; have h8 := digT_len b; simp only [List.length_append, List.length_cons, List.length_nil]; omega) ?_)
     refine A_take 10 rfl (by kernel_rfl) rfl hs (Y_assign rfl ?_)
     refine A_done (by kernel_rfl) (T_kp [2] rfl ?_)
     refine T_ret ?_
     refine Rt_fin (vs := [_]) Tryz.results65 rfl ⟨rfl, trivial⟩ ?_
     try dsimp only [tup]
     exact ⟨_, [], hs.done, rfl, by unfold sufT; rw [if_neg (by omega), if_neg (by omega), if_neg (by omega), if_neg (by omega)]; simp⟩

def allC : List Nat := [18446744073709551615, 18446744073709551615, 18446744073709551615, 18446744073709551615]
def mixC (c : List Nat) (i : Nat) : List Nat := (notF c).take i ++ c.drop i
theorem mixC_len {c : List Nat} (hc : c.length = 4) {i : Nat} (hi : i ≤ 4) : (mixC c i).length = 4 := by unfold mixC; rw [List.length_append, List.length_take, List.length_drop, notF_len hc]; omega
theorem mixC_set {c : List Nat} (hc : c.length = 4) {i : Nat} (hi : i < 4) : ((mixC c i).map u64V).set i (u64V (xor64 18446744073709551615 (c.getD i 0))) = (mixC c (i + 1)).map u64V := by
  obtain ⟨a, b, d, e, rfl⟩ := four_of hc
  rcases (by omega : i = 0 ∨ i = 1 ∨ i = 2 ∨ i = 3) with rfl | rfl | rfl | rfl <;> rfl
theorem mixC_get {c : List Nat} (hc : c.length = 4) {i : Nat} (hi : i < 4) : ((mixC c i).map u64V)[i]? = some (u64V (c.getD i 0)) := by
  obtain ⟨a, b, d, e, rfl⟩ := four_of hc
  rcases (by omega : i = 0 ∨ i = 1 ∨ i = 2 ∨ i = 3) with rfl | rfl | rfl | rfl <;> rfl
theorem allC_get {i : Nat} (hi : i < 4) : (allC.map u64V)[i]? = some (u64V 18446744073709551615) := by
  rcases (by omega : i = 0 ∨ i = 1 ∨ i = 2 ∨ i = 3) with rfl | rfl | rfl | rfl <;> rfl
theorem Y_xor64 {x : Cx} {W : World → Prop} {E : Env} {K : Value → Prop} {d : Option Tmp} {ty xt yt : TypeId} {pos : String} {aft : Array Edge} {g : Option (Nat × Bool)} {o p : Operand} {a b : Nat} (h1 : ev E o = some (u64V a)) (h2 : ev E p = some (u64V b)) (k : K (u64V (xor64 a b))) : Y x W ⟨d, .binOp .xor xt o p yt, ty, pos, aft, g⟩ E K :=
  Y_bits h1 h2 (by simp) (bits_xor a b) k
theorem mixC_4 {c : List Nat} (hc : c.length = 4) : mixC c 4 = notF c := by unfold mixC; rw [List.take_of_length_le (by rw [notF_len hc]; omega), List.drop_of_length_le (by omega), List.append_nil]


set_option maxHeartbeats 400000 in
set_option maxRecDepth 10000 in
theorem rall_ok {G : Ghost} :
  FnOk Tryz.prog 74 [] G [] fun r _ H' => H' = [] ∧ r = ClsV allC := by
 refine FnOk.of_T [] Tryz.func74 rfl Tryz.ntmps74 (by simp) rfl fun w0 hs => ?_
 refine T_seq (T_region rfl ?_)
 refine O_s (S_alloc hs Tryz.zeroValue40 (cs := [_, _, _, _]) rfl fun b0 _ hs => ?_)
 refine O_nil (T_kp [0] rfl ?_)
 refine T_seq (T_region rfl ?_)
 refine O_y hs (Y_buildA Tryz.underlying40 Tryz.sizeOf38 Tryz.zeroValue40 rfl rfl (cs := [_, _, _, _]) rfl ?_)
 refine O_n (S_stA hs Tryz.sizeOf40 rfl rfl (vs := [_, _, _, _]) rfl (rfl) (by simp) (cs' := [_, _, _, _]) rfl fun _ hs => ?_)
 refine O_nil (T_kp [0] rfl ?_)
 refine T_ret ?_
 have hr := hs
 refine Rt_fin (vs := [_]) Tryz.results74 rfl ⟨ResOk_blk 0 hr Tryz.isAgg40 Tryz.sizeOf40 rfl (cs := [_, _, _, _]) rfl rfl, trivial⟩ ?_
 try dsimp only [tup]
 exact ⟨_, [], hs.done, rfl, rfl⟩

theorem Y_eqlWS {x : Cx} {W : World → Prop} {E : Env} {K : Value → Prop} {d : Option Tmp} {ty : TypeId} {pos : String} {aft : Array Edge} {g : Option (Nat × Bool)} {o q : Operand} {xt yt e : TypeId} {a b : List Nat}
    (ht : x.P.underlying xt = some (.array 4 e)) (hS : ∀ w, (sizeOf e).run x.P w = .ok 1 w) (hA : ∀ w, (isAgg e).run x.P w = .ok false w) (he : x.P.underlying e = some (.int .u64)) (hg : x.P.eqGuardType x.P.depth xt = false)
    (h1 : ev E o = some (.agg (a.map u64V).toArray)) (h2 : ev E q = some (.agg (b.map u64V).toArray)) (hx : a.length = 4) (hy : b.length = 4) (hxw : ∀ x ∈ a, x < W64) (hyw : ∀ x ∈ b, x < W64) (kt : a = b → K (.bool true)) (kf : ¬ a = b → K (.bool false)) : Y x W ⟨d, .binOp .eql xt o q yt, ty, pos, aft, g⟩ E K :=
  Y_of (v := .bool (decide (a = b))) (fun f hf w _ => by
    have h' : (binOp .eql xt (.agg (a.map u64V).toArray) (.agg (b.map u64V).toArray)).run x.P w = .ok (.bool (decide (a = b))) w := by
      rw [run_eql_struct, equalIn_w4 9998 ht hS hA he hx hy hxw hyw]; rfl
    simp only [execOp, hf.ev h1, hf.ev h2, Sem.run_bind, run_eqGuard_agg w _ _ _ _ _ _ hg, Result.andThen_ok, h', Sem.run_pure]) (by
    by_cases h : a = b
    · simpa [h] using kt h
    · simpa [h] using kf h)
theorem row_at {T : List (List UInt8)} {i : Nat} (hi : i < T.length) : (T.map strV)[i]? = some (strV (T.getD i [])) := by
  rw [List.getElem?_map, List.getElem?_eq_getElem hi, List.getD_eq_getElem?_getD, List.getElem?_eq_getElem hi]; rfl
theorem rank_less {kd : Int} {k : Nat} (hk : 1 ≤ k ∧ k ≤ 4) : ((rankK kd : Nat) : Int) < (k : Int) ↔ (lessK k).contains kd = true := by
  rw [less_iff hk]; exact Int.ofNat_lt


set_option maxHeartbeats 400000 in
set_option maxRecDepth 10000 in
theorem rwrap_ok {G : Ghost} {v : Value} {l : List NodeV} {T : List (List UInt8)} {i k bT cT : Nat} (hx : Rx G v l) (hi : i < T.length) (hTl : T.length ≤ l.length) (hll : l.length ≤ 1000000000) (hk : 1 ≤ k ∧ k ≤ 4) (hln : (T.getD i []).length ≤ 1000000) :
  FnOk Tryz.prog 64 [v, .slice (some ⟨bT, 0, none⟩) T.length cT, .int .i64 (i : Int), .int .i64 (k : Int)] G [.row 9 1 (.slice (some ⟨bT, 0, none⟩) T.length cT) T.length (T.map strV)] fun r _ H' => H' = [.row 9 1 (.slice (some ⟨bT, 0, none⟩) T.length cT) T.length (T.map strV)] ∧ r = strV (wrapF l T (lessK k) i) := by
 obtain ⟨A, cap, rfl⟩ := LstR.slice hx
 have hki := kindAt_get (l := l) (i := i) (by omega)
 have hrow : (T.map strV)[i]? = some (strV (T.getD i [])) := by rw [List.getElem?_map, List.getElem?_eq_getElem hi, List.getD_eq_getElem?_getD, List.getElem?_eq_getElem hi]; rfl
 refine FnOk.of_T [(0, _), (1, _), (2, _), (3, _)] Tryz.func64 rfl Tryz.ntmps64 (by simp) rfl fun w0 hs => ?_
 have hx0 := hx
 refine T_seq (T_region rfl ?_)
 refine O_a rfl ?_
 refine O_nil (T_kp [0, 1, 2, 3] rfl ?_)
 refine T_seq (T_seq (T_region rfl ?_))
 refine O_m rfl ?_
 refine O_m rfl ?_
 refine O_y hs (Y_idxS hx i Tryz.underlying24 Tryz.sizeOf42 rfl rfl rfl (by omega) fun p11 c11 hp11 hc11 hR11 => ?_)
 refine O_y hs (Y_fieldAddrP FO42_0 rfl ?_)
 refine O_y hs (Y_ldG Tryz.isAgg3 rfl (hp11 0 (.int .i64 (kindAt l i)) (by rw [hR11.1, hki]; rfl)) ?_)
 refine O_s (S_call (H1 := []) hs rfl Tryz.func86 rfl (by kernel_rfl) (rrank_ok (k := kindAt l i)) fun v1 G' H' _ hR hG14 hs => ?_)
 obtain ⟨rfl, rfl⟩ := hR
 replace hs : St _ _ [_] _ := hs
 replace hx := hx.mono hG14
 refine O_m rfl ?_
 refine O_y hs (Y_cmpS rfl rfl rfl (fun h16 => ?_) (fun h16 => ?_))
 ·
  dsimp only [cmpP] at h16
  refine O_nil (T_kp [1, 2, 16] rfl ?_)
  refine T_condT rfl (T_seq (T_region rfl ?_))
  refine O_m rfl ?_
  refine O_m rfl ?_
  refine O_y hs (Y_idxRow (i) Tryz.underlying65 Tryz.sizeOf9 rfl rfl rfl (by omega) ?_)
  refine O_y hs (Y_ldRow 0 rfl Tryz.isAgg9 rfl (hrow) ?_)
  refine O_y hs (Y_cat rfl rfl (by simp only [List.length_cons, List.length_nil]; omega) ?_)
  refine O_y hs (Y_cat rfl rfl (by simp only [List.length_append, List.length_cons, List.length_nil]; omega) ?_)
  refine O_a rfl ?_
  refine O_nil (T_kp [8] rfl ?_)
  refine T_ret ?_
  refine Rt_fin (vs := [_]) Tryz.results64 rfl ⟨rfl, trivial⟩ ?_
  try dsimp only [tup]
  exact ⟨_, _, hs, rfl, by unfold wrapF; rw [if_pos ((rank_less hk).1 h16)]; try simp [strV]⟩
 ·
  dsimp only [cmpP] at h16
  refine O_nil (T_kp [1, 2, 16] rfl ?_)
  refine T_condF rfl (T_skip ?_)
  refine T_seq (T_region rfl ?_)
  refine O_m rfl ?_
  refine O_m rfl ?_
  refine O_y hs (Y_idxRow (i) Tryz.underlying65 Tryz.sizeOf9 rfl rfl rfl (by omega) ?_)
  refine O_y hs (Y_ldRow 0 rfl Tryz.isAgg9 rfl (hrow) ?_)
  refine O_a rfl ?_
  refine O_nil (T_kp [8] rfl ?_)
  refine T_ret ?_
  refine Rt_fin (vs := [_]) Tryz.results64 rfl ⟨rfl, trivial⟩ ?_
  try dsimp only [tup]
  exact ⟨_, _, hs, rfl, by unfold wrapF; rw [if_neg (fun h => h16 ((rank_less hk).2 h))]; try simp [strV]⟩

set_option maxHeartbeats 1000000 in
set_option maxRecDepth 10000 in
theorem rcltx_ok {G : Ghost} {c : List Nat} (hc : ClsOk c) :
  FnOk Tryz.prog 63 [ClsV c] G [] fun r _ H' => H' = [] ∧ r = .string ⟨(classT (membF c)).toArray⟩ := by
 have hc4 := hc.1
 have hml := sfx_len c 0
 rw [sfx_zero] at hml
 have hrl := runsT_len (membF c).length (membF c)
 refine FnOk.of_T [(0, _)] Tryz.func63 rfl Tryz.ntmps63 (by simp) rfl fun w0 hs => ?_
 refine T_seq (T_region rfl ?_)
 refine O_s (S_box hs rfl (cs := (List.map u64V c)) rfl fun b1 _ hs => ?_)
 refine O_a rfl ?_
 refine O_nil (T_kp [1] rfl ?_)
 refine T_seq (T_seq (T_drawS [0, 1, 2] hs (by kernel_rfl) ?_))
 replace hs := hs.drew
 refine A_take 0 rfl (by kernel_rfl) rfl hs (Y_ldW 0 Tryz.isAgg40 Tryz.sizeOf40 rfl rfl (by first | omega | (simp; omega) | simp) ?_)
 have hle := hs.le
 refine A_only 1 rfl (by kernel_rfl) rfl (S_call (H1 := []) hs rfl Tryz.func74 rfl (by kernel_rfl) (rall_ok) fun v1 G' H' _ hR hG9 hs => ?_)
 obtain ⟨rfl, rfl⟩ := hR
 replace hs : St _ _ [_] _ := hs
 refine A_moreS hs hle hG9 (List.Sublist.refl _) ?_
 refine A_take 2 rfl (by kernel_rfl) rfl hs (Y_eqlWS (a := c) (b := allC) Tryz.underlying40 Tryz.sizeOf38 Tryz.isAgg38 Tryz.underlying38 rfl rfl rfl hc.1 rfl hc.2 (by decide) (fun h10 => ?_) (fun h10 => ?_))
 ·
  refine A_done (by kernel_rfl) (T_kp [1, 10] rfl ?_)
  refine T_condT rfl (T_seq (T_region rfl ?_))
  refine O_a rfl ?_
  refine O_nil (T_kp [2] rfl ?_)
  refine T_ret ?_
  refine Rt_fin (vs := [_]) Tryz.results63 rfl ⟨rfl, trivial⟩ ?_
  try dsimp only [tup]
  subst h10
  exact ⟨_, [], hs.done, rfl, (congrArg strV classT_all).symm⟩
 ·
  refine A_done (by kernel_rfl) (T_kp [1, 10] rfl ?_)
  refine T_condF rfl (T_skip ?_)
  refine T_seq (T_region rfl ?_)
  refine O_a rfl ?_
  refine O_nil (T_kp [1, 3] rfl ?_)
  refine T_seq (T_region rfl ?_)
  refine O_a rfl ?_
  refine O_nil (T_kp [1, 3, 4] rfl ?_)
  refine T_seq (T_region rfl ?_)
  refine O_a rfl ?_
  refine O_nil (T_kp [1, 3, 4, 5] rfl ?_)
  refine T_seq (T_seq (T_region rfl ?_))
  refine O_a rfl ?_
  refine O_nil (T_kp [1, 3, 4, 5, 6] rfl ?_)
  refine T_block (T_loop (fun m E w => ∃ (lo n f : Nat) (la : UInt8) (sx : List UInt8) (G' : Ghost), lo ≤ 256 ∧ (sfx c lo).length ≤ f ∧ f ≤ 256 ∧ runsT (membF c).length (membF c) = sx ++ runsT f (sfx c lo) ∧ n + (sfx c lo).length = (membF c).length ∧ (0 < n → la ∈ membF c) ∧ m = 256 - lo ∧ E = ⟨[], [(1, .pointer (some ⟨b1, 0, none⟩)), (3, .string ⟨sx.toArray⟩), (4, .int .i64 (n : Int)), (5, .int .u8 (la.toNat : Int)), (6, .int .i64 (lo : Int))]⟩ ∧ St ⟨w0, G, feet []⟩ G' [.blk b1 40 (List.map u64V c)] w) (L := [(1, _), (3, _), (4, _), (5, _), (6, _)]) ⟨rfl, rfl, rfl, rfl, rfl, trivial⟩ (⟨0, 0, (membF c).length, 0, [], _, by omega, by rw [sfx_zero]; exact Nat.le_refl _, by omega, by rw [sfx_zero]; rfl, by rw [sfx_zero, Nat.zero_add], fun h => absurd h (Nat.lt_irrefl 0), rfl, rfl, hs⟩) fun m E w hI => ?_)
  obtain ⟨lo, n, f, la, sx, G', hlo, hf, hf2, hrun, hn, hla, rfl, rfl, hs⟩ := hI
  refine T_seq (T_seq (T_region rfl ?_))
  refine O_m rfl ?_
  refine O_y hs (Y_cmpS rfl rfl rfl (fun h12 => ?_) (fun h12 => ?_))
  ·
   dsimp only [cmpP] at h12
   refine O_nil (T_kp [1, 3, 4, 5, 6, 12] rfl ?_)
   refine T_condT rfl (T_skip ?_)
   refine T_seq (T_block (T_seq (T_seq (T_region rfl ?_))))
   refine O_y hs (Y_ldW 0 Tryz.isAgg40 Tryz.sizeOf40 rfl rfl (by first | omega | (simp; omega) | simp) ?_)
   refine O_m rfl ?_
   refine O_y hs (Y_conv Tryz.underlying3 Tryz.underlying5 (c := ((UInt8.ofNat (lo)).toNat : Int)) rfl (by rw [IntKind.wrap_u8, UInt8.toNat_ofNat']; omega) ?_)
   refine O_s (S_call (H1 := []) hs rfl Tryz.func84 rfl (by kernel_rfl) (rhas_ok (c := c) (x := (UInt8.ofNat lo)) hc.1) fun v2 G' H' _ hR hG18 hs => ?_)
   obtain ⟨rfl, rfl⟩ := hR
   replace hs : St _ _ [_] _ := hs
   cases h18 : hasF c (UInt8.ofNat lo)
   ·
    refine O_y hs (Y_not rfl ?_)
    refine O_nil (T_kp [1, 3, 4, 5, 6, 19] rfl ?_)
    refine T_condT rfl (T_exit ?_)
    refine T_region rfl ?_
    refine O_m rfl ?_
    refine O_y hs (Y_add (c := ((lo + 1 : Nat) : Int)) rfl rfl (by omega) (by omega) ?_)
    refine O_a rfl ?_
    refine O_nil ⟨_, ?_, [(1, _), (3, _), (4, _), (5, _), (6, _)], ⟨rfl, rfl, rfl, rfl, rfl, trivial⟩, ⟨lo + 1, n, f, la, sx, _, by omega, by rw [← sfx_out (by omega) h18]; exact hf, hf2, by rw [← sfx_out (by omega) h18]; exact hrun, by rw [← sfx_out (by omega) h18]; exact hn, hla, rfl, rfl, hs⟩⟩
    omega
   ·
    refine O_y hs (Y_not rfl ?_)
    refine O_nil (T_kp [1, 3, 4, 5, 6, 19] rfl ?_)
    refine T_condF rfl (T_skip ?_)
    refine T_seq (T_region rfl ?_)
    refine O_m rfl ?_
    refine O_a rfl ?_
    refine O_nil (T_kp [1, 3, 4, 6, 7] rfl ?_)
    refine T_seq (T_block (T_loop (fun m E w => ∃ (hi : Nat) (G' : Ghost), lo ≤ hi ∧ hi < 256 ∧ (∀ i, lo ≤ i → i ≤ hi → hasF c (UInt8.ofNat i) = true) ∧ m = 255 - hi ∧ E = ⟨[], [(1, .pointer (some ⟨b1, 0, none⟩)), (3, .string ⟨sx.toArray⟩), (4, .int .i64 (n : Int)), (6, .int .i64 (lo : Int)), (7, .int .i64 (hi : Int))]⟩ ∧ St ⟨w0, G, feet []⟩ G' [.blk b1 40 (List.map u64V c)] w) (L := [(1, _), (3, _), (4, _), (6, _), (7, _)]) ⟨rfl, rfl, rfl, rfl, rfl, trivial⟩ (⟨lo, _, Nat.le_refl _, by omega, fun i h1 h2 => by rw [show i = lo by omega]; exact h18, rfl, rfl, hs⟩) fun m E w hI => ?_))
    obtain ⟨hi, G', hlh, hh2, hmem, rfl, rfl, hs⟩ := hI
    refine T_seq (T_seq (T_region rfl ?_))
    refine O_m rfl ?_
    refine O_y hs (Y_cmpS rfl rfl rfl (fun h22 => ?_) (fun h22 => ?_))
    ·
     dsimp only [cmpP] at h22
     refine O_m rfl ?_
     refine O_yy 23 hs rfl rfl (Y_ldW 0 Tryz.isAgg40 Tryz.sizeOf40 rfl rfl (by first | omega | (simp; omega) | simp) ?_)
     refine O_yy 23 hs rfl rfl (Y_move rfl ?_)
     refine O_yy 23 hs rfl rfl (Y_add (c := ((hi + 1 : Nat) : Int)) rfl rfl (by omega) (by omega) ?_)
     refine O_yy 23 hs rfl rfl (Y_conv Tryz.underlying3 Tryz.underlying5 (c := ((UInt8.ofNat (hi + 1)).toNat : Int)) rfl (by rw [IntKind.wrap_u8, UInt8.toNat_ofNat']; omega) ?_)
     refine O_yes 23 rfl rfl (S_call (H1 := []) hs rfl Tryz.func84 rfl (by kernel_rfl) (rhas_ok (c := c) (x := (UInt8.ofNat (hi + 1))) hc.1) fun v3 G' H' _ hR hG28 hs => ?_)
     obtain ⟨rfl, rfl⟩ := hR
     replace hs : St _ _ [_] _ := hs
     cases h28 : hasF c (UInt8.ofNat (hi + 1))
     ·
      refine O_y hs (Y_pickT rfl rfl ?_)
      refine O_nil (T_kp [1, 3, 4, 6, 7, 29] rfl ?_)
      refine T_condF rfl (T_exit ?_)
      have hin := congrArg List.length (sfx_in (c := c) (lo := lo) (by omega) h18)
      rw [List.length_cons] at hin
      obtain ⟨f1, rfl⟩ : ∃ k, f = k + 1 := ⟨f - 1, by omega⟩
      obtain ⟨hg1, hg2, hg3⟩ := scan_go (f := f1) hlh hh2 hmem (.inr h28)
      have hln := congrArg List.length (hrun.trans (congrArg (sx ++ ·) hg1))
      simp only [List.length_append] at hln
      have sx_len : sx.length ≤ 2304 := by omega
      clear hln
      refine T_seq (T_region rfl ?_)
      refine O_m rfl ?_
      refine O_m rfl ?_
      refine O_y hs (Y_add (c := ((n + hi : Nat) : Int)) rfl rfl (by omega) (by omega) ?_)
      refine O_m rfl ?_
      refine O_y hs (Y_sub (c := ((n + hi - lo : Nat) : Int)) rfl rfl (by omega) (by omega) ?_)
      refine O_y hs (Y_add (c := ((n + hi - lo + 1 : Nat) : Int)) rfl rfl (by omega) (by omega) ?_)
      refine O_a rfl ?_
      refine O_nil (T_kp [1, 3, 4, 6, 7] rfl ?_)
      refine T_seq (T_region rfl ?_)
      refine O_m rfl ?_
      refine O_y hs (Y_conv Tryz.underlying3 Tryz.underlying5 (c := ((UInt8.ofNat (lo)).toNat : Int)) rfl (by rw [IntKind.wrap_u8, UInt8.toNat_ofNat']; omega) ?_)
      refine O_a rfl ?_
      refine O_nil (T_kp [1, 3, 4, 5, 6, 7] rfl ?_)
      refine T_seq (T_region rfl ?_)
      refine O_m rfl ?_
      refine O_m rfl ?_
      refine O_y hs (Y_conv Tryz.underlying3 Tryz.underlying5 (c := ((UInt8.ofNat (lo)).toNat : Int)) rfl (by rw [IntKind.wrap_u8, UInt8.toNat_ofNat']; omega) ?_)
      refine O_s (S_call (H1 := []) hs rfl Tryz.func85 rfl (by kernel_rfl) (rchtx_ok (b := (UInt8.ofNat (lo)))) fun v4 G' H' _ hR hG43 hs => ?_)
      obtain ⟨rfl, rfl⟩ := hR
      replace hs : St _ _ [_] _ := hs
      refine O_y hs (Y_cat rfl rfl (by have q1 := charT_len (UInt8.ofNat lo); have q2 := charT_len (UInt8.ofNat hi); (try simp only [List.length_append, List.length_cons, List.length_nil]); omega) ?_)
      refine O_a rfl ?_
      refine O_nil (T_kp [1, 3, 4, 5, 6, 7] rfl ?_)
      refine T_seq (T_seq (T_region rfl ?_))
      refine O_m rfl ?_
      refine O_m rfl ?_
      refine O_y hs (Y_add (c := ((lo + 1 : Nat) : Int)) rfl rfl (by omega) (by omega) ?_)
      refine O_y hs (Y_cmpS rfl rfl rfl (fun h48 => ?_) (fun h48 => ?_))
      ·
       dsimp only [cmpP] at h48
       refine O_nil (T_kp [1, 3, 4, 5, 6, 7, 48] rfl ?_)
       refine T_condT rfl (T_region rfl ?_)
       refine O_m rfl ?_
       refine O_y hs (Y_cat rfl rfl (by have q1 := charT_len (UInt8.ofNat lo); have q2 := charT_len (UInt8.ofNat hi); (try simp only [List.length_append, List.length_cons, List.length_nil]); omega) ?_)
       refine O_a rfl ?_
       refine O_nil (T_kp [1, 3, 4, 5, 6, 7] rfl ?_)
       refine T_seq (T_seq (T_region rfl ?_))
       refine O_m rfl ?_
       refine O_m rfl ?_
       refine O_y hs (Y_cmpS rfl rfl rfl (fun h53 => ?_) (fun h53 => ?_))
       ·
        dsimp only [cmpP] at h53
        refine O_nil (T_kp [1, 3, 4, 5, 7, 53] rfl ?_)
        refine T_condT rfl (T_region rfl ?_)
        refine O_m rfl ?_
        refine O_m rfl ?_
        refine O_y hs (Y_conv Tryz.underlying3 Tryz.underlying5 (c := ((UInt8.ofNat (hi)).toNat : Int)) rfl (by rw [IntKind.wrap_u8, UInt8.toNat_ofNat']; omega) ?_)
        refine O_s (S_call (H1 := []) hs rfl Tryz.func85 rfl (by kernel_rfl) (rchtx_ok (b := (UInt8.ofNat (hi)))) fun v5 G' H' _ hR hG57 hs => ?_)
        obtain ⟨rfl, rfl⟩ := hR
        replace hs : St _ _ [_] _ := hs
        refine O_y hs (Y_cat rfl rfl (by have q1 := charT_len (UInt8.ofNat lo); have q2 := charT_len (UInt8.ofNat hi); (try simp only [List.length_append, List.length_cons, List.length_nil]); omega) ?_)
        refine O_a rfl ?_
        refine O_nil (T_kp [1, 3, 4, 5, 7] rfl ?_)
        refine T_region rfl ?_
        refine O_m rfl ?_
        refine O_a rfl ?_
        refine O_nil (T_kp [1, 3, 4, 5, 6] rfl ?_)
        refine T_region rfl ?_
        refine O_m rfl ?_
        refine O_y hs (Y_add (c := ((hi + 1 : Nat) : Int)) rfl rfl (by omega) (by omega) ?_)
        refine O_a rfl ?_
        refine O_nil ⟨_, ?_, [(1, _), (3, _), (4, _), (5, _), (6, _)], ⟨rfl, rfl, rfl, rfl, rfl, trivial⟩, ⟨hi + 1, n + hi - lo + 1, f1, UInt8.ofNat lo, _, _, by omega, by omega, by omega, by rw [hrun, hg1, if_pos (by omega), if_pos (by omega)]; simp only [List.append_assoc, List.nil_append], by omega, fun _ => hg3, rfl, rfl, hs⟩⟩
        omega
       ·
        dsimp only [cmpP] at h53
        refine O_nil (T_kp [1, 3, 4, 5, 7, 53] rfl ?_)
        refine T_condF rfl (T_skip ?_)
        refine T_region rfl ?_
        refine O_m rfl ?_
        refine O_a rfl ?_
        refine O_nil (T_kp [1, 3, 4, 5, 6] rfl ?_)
        refine T_region rfl ?_
        refine O_m rfl ?_
        refine O_y hs (Y_add (c := ((hi + 1 : Nat) : Int)) rfl rfl (by omega) (by omega) ?_)
        refine O_a rfl ?_
        refine O_nil ⟨_, ?_, [(1, _), (3, _), (4, _), (5, _), (6, _)], ⟨rfl, rfl, rfl, rfl, rfl, trivial⟩, ⟨hi + 1, n + hi - lo + 1, f1, UInt8.ofNat lo, _, _, by omega, by omega, by omega, by rw [hrun, hg1, if_pos (by omega), if_neg (by omega)]; simp only [List.append_assoc, List.nil_append], by omega, fun _ => hg3, rfl, rfl, hs⟩⟩
        omega
      ·
       dsimp only [cmpP] at h48
       refine O_nil (T_kp [1, 3, 4, 5, 6, 7, 48] rfl ?_)
       refine T_condF rfl (T_skip ?_)
       refine T_seq (T_seq (T_region rfl ?_))
       refine O_m rfl ?_
       refine O_m rfl ?_
       refine O_y hs (Y_cmpS rfl rfl rfl (fun h53 => ?_) (fun h53 => ?_))
       ·
        dsimp only [cmpP] at h53
        refine O_nil (T_kp [1, 3, 4, 5, 7, 53] rfl ?_)
        refine T_condT rfl (T_region rfl ?_)
        refine O_m rfl ?_
        refine O_m rfl ?_
        refine O_y hs (Y_conv Tryz.underlying3 Tryz.underlying5 (c := ((UInt8.ofNat (hi)).toNat : Int)) rfl (by rw [IntKind.wrap_u8, UInt8.toNat_ofNat']; omega) ?_)
        refine O_s (S_call (H1 := []) hs rfl Tryz.func85 rfl (by kernel_rfl) (rchtx_ok (b := (UInt8.ofNat (hi)))) fun v6 G' H' _ hR hG57 hs => ?_)
        obtain ⟨rfl, rfl⟩ := hR
        replace hs : St _ _ [_] _ := hs
        refine O_y hs (Y_cat rfl rfl (by have q1 := charT_len (UInt8.ofNat lo); have q2 := charT_len (UInt8.ofNat hi); (try simp only [List.length_append, List.length_cons, List.length_nil]); omega) ?_)
        refine O_a rfl ?_
        refine O_nil (T_kp [1, 3, 4, 5, 7] rfl ?_)
        refine T_region rfl ?_
        refine O_m rfl ?_
        refine O_a rfl ?_
        refine O_nil (T_kp [1, 3, 4, 5, 6] rfl ?_)
        refine T_region rfl ?_
        refine O_m rfl ?_
        refine O_y hs (Y_add (c := ((hi + 1 : Nat) : Int)) rfl rfl (by omega) (by omega) ?_)
        refine O_a rfl ?_
        refine O_nil ⟨_, ?_, [(1, _), (3, _), (4, _), (5, _), (6, _)], ⟨rfl, rfl, rfl, rfl, rfl, trivial⟩, ⟨hi + 1, n + hi - lo + 1, f1, UInt8.ofNat lo, _, _, by omega, by omega, by omega, by rw [hrun, hg1, if_neg (by omega), if_pos (by omega)]; simp only [List.append_assoc, List.nil_append], by omega, fun _ => hg3, rfl, rfl, hs⟩⟩
        omega
       ·
        dsimp only [cmpP] at h53
        refine O_nil (T_kp [1, 3, 4, 5, 7, 53] rfl ?_)
        refine T_condF rfl (T_skip ?_)
        refine T_region rfl ?_
        refine O_m rfl ?_
        refine O_a rfl ?_
        refine O_nil (T_kp [1, 3, 4, 5, 6] rfl ?_)
        refine T_region rfl ?_
        refine O_m rfl ?_
        refine O_y hs (Y_add (c := ((hi + 1 : Nat) : Int)) rfl rfl (by omega) (by omega) ?_)
        refine O_a rfl ?_
        refine O_nil ⟨_, ?_, [(1, _), (3, _), (4, _), (5, _), (6, _)], ⟨rfl, rfl, rfl, rfl, rfl, trivial⟩, ⟨hi + 1, n + hi - lo + 1, f1, UInt8.ofNat lo, _, _, by omega, by omega, by omega, by rw [hrun, hg1, if_neg (by omega), if_neg (by omega)]; simp only [List.append_assoc, List.nil_append], by omega, fun _ => hg3, rfl, rfl, hs⟩⟩
        omega
     ·
      refine O_y hs (Y_pickT rfl rfl ?_)
      refine O_nil (T_kp [1, 3, 4, 6, 7, 29] rfl ?_)
      refine T_condT rfl (T_skip ?_)
      refine T_block (T_region rfl ?_)
      refine O_m rfl ?_
      refine O_y hs (Y_add (c := ((hi + 1 : Nat) : Int)) rfl rfl (by omega) (by omega) ?_)
      refine O_a rfl ?_
      refine O_nil ⟨_, ?_, [(1, _), (3, _), (4, _), (6, _), (7, _)], ⟨rfl, rfl, rfl, rfl, rfl, trivial⟩, ⟨hi + 1, _, by omega, by omega, fun i h1 h2 => (Nat.lt_or_ge hi i).elim (fun h => by rw [show i = hi + 1 by omega]; exact h28) (hmem i h1), rfl, rfl, hs⟩⟩
      omega
    ·
     dsimp only [cmpP] at h22
     refine O_m rfl ?_
     refine O_no 23 rfl rfl ?_
     refine O_no 23 rfl rfl ?_
     refine O_no 23 rfl rfl ?_
     refine O_no 23 rfl rfl ?_
     refine O_no 23 rfl rfl ?_
     refine O_y hs (Y_pickF rfl rfl ?_)
     refine O_nil (T_kp [1, 3, 4, 6, 7, 29] rfl ?_)
     refine T_condF rfl (T_exit ?_)
     have hin := congrArg List.length (sfx_in (c := c) (lo := lo) (by omega) h18)
     rw [List.length_cons] at hin
     obtain ⟨f1, rfl⟩ : ∃ k, f = k + 1 := ⟨f - 1, by omega⟩
     obtain ⟨hg1, hg2, hg3⟩ := scan_go (f := f1) hlh hh2 hmem (.inl (by omega))
     have hln := congrArg List.length (hrun.trans (congrArg (sx ++ ·) hg1))
     simp only [List.length_append] at hln
     have sx_len : sx.length ≤ 2304 := by omega
     clear hln
     refine T_seq (T_region rfl ?_)
     refine O_m rfl ?_
     refine O_m rfl ?_
     refine O_y hs (Y_add (c := ((n + hi : Nat) : Int)) rfl rfl (by omega) (by omega) ?_)
     refine O_m rfl ?_
     refine O_y hs (Y_sub (c := ((n + hi - lo : Nat) : Int)) rfl rfl (by omega) (by omega) ?_)
     refine O_y hs (Y_add (c := ((n + hi - lo + 1 : Nat) : Int)) rfl rfl (by omega) (by omega) ?_)
     refine O_a rfl ?_
     refine O_nil (T_kp [1, 3, 4, 6, 7] rfl ?_)
     refine T_seq (T_region rfl ?_)
     refine O_m rfl ?_
     refine O_y hs (Y_conv Tryz.underlying3 Tryz.underlying5 (c := ((UInt8.ofNat (lo)).toNat : Int)) rfl (by rw [IntKind.wrap_u8, UInt8.toNat_ofNat']; omega) ?_)
     refine O_a rfl ?_
     refine O_nil (T_kp [1, 3, 4, 5, 6, 7] rfl ?_)
     refine T_seq (T_region rfl ?_)
     refine O_m rfl ?_
     refine O_m rfl ?_
     refine O_y hs (Y_conv Tryz.underlying3 Tryz.underlying5 (c := ((UInt8.ofNat (lo)).toNat : Int)) rfl (by rw [IntKind.wrap_u8, UInt8.toNat_ofNat']; omega) ?_)
     refine O_s (S_call (H1 := []) hs rfl Tryz.func85 rfl (by kernel_rfl) (rchtx_ok (b := (UInt8.ofNat (lo)))) fun v7 G' H' _ hR hG43 hs => ?_)
     obtain ⟨rfl, rfl⟩ := hR
     replace hs : St _ _ [_] _ := hs
     refine O_y hs (Y_cat rfl rfl (by have q1 := charT_len (UInt8.ofNat lo); have q2 := charT_len (UInt8.ofNat hi); (try simp only [List.length_append, List.length_cons, List.length_nil]); omega) ?_)
     refine O_a rfl ?_
     refine O_nil (T_kp [1, 3, 4, 5, 6, 7] rfl ?_)
     refine T_seq (T_seq (T_region rfl ?_))
     refine O_m rfl ?_
     refine O_m rfl ?_
     refine O_y hs (Y_add (c := ((lo + 1 : Nat) : Int)) rfl rfl (by omega) (by omega) ?_)
     refine O_y hs (Y_cmpS rfl rfl rfl (fun h48 => ?_) (fun h48 => ?_))
     ·
      dsimp only [cmpP] at h48
      refine O_nil (T_kp [1, 3, 4, 5, 6, 7, 48] rfl ?_)
      refine T_condT rfl (T_region rfl ?_)
      refine O_m rfl ?_
      refine O_y hs (Y_cat rfl rfl (by have q1 := charT_len (UInt8.ofNat lo); have q2 := charT_len (UInt8.ofNat hi); (try simp only [List.length_append, List.length_cons, List.length_nil]); omega) ?_)
      refine O_a rfl ?_
      refine O_nil (T_kp [1, 3, 4, 5, 6, 7] rfl ?_)
      refine T_seq (T_seq (T_region rfl ?_))
      refine O_m rfl ?_
      refine O_m rfl ?_
      refine O_y hs (Y_cmpS rfl rfl rfl (fun h53 => ?_) (fun h53 => ?_))
      ·
       dsimp only [cmpP] at h53
       refine O_nil (T_kp [1, 3, 4, 5, 7, 53] rfl ?_)
       refine T_condT rfl (T_region rfl ?_)
       refine O_m rfl ?_
       refine O_m rfl ?_
       refine O_y hs (Y_conv Tryz.underlying3 Tryz.underlying5 (c := ((UInt8.ofNat (hi)).toNat : Int)) rfl (by rw [IntKind.wrap_u8, UInt8.toNat_ofNat']; omega) ?_)
       refine O_s (S_call (H1 := []) hs rfl Tryz.func85 rfl (by kernel_rfl) (rchtx_ok (b := (UInt8.ofNat (hi)))) fun v8 G' H' _ hR hG57 hs => ?_)
       obtain ⟨rfl, rfl⟩ := hR
       replace hs : St _ _ [_] _ := hs
       refine O_y hs (Y_cat rfl rfl (by have q1 := charT_len (UInt8.ofNat lo); have q2 := charT_len (UInt8.ofNat hi); (try simp only [List.length_append, List.length_cons, List.length_nil]); omega) ?_)
       refine O_a rfl ?_
       refine O_nil (T_kp [1, 3, 4, 5, 7] rfl ?_)
       refine T_region rfl ?_
       refine O_m rfl ?_
       refine O_a rfl ?_
       refine O_nil (T_kp [1, 3, 4, 5, 6] rfl ?_)
       refine T_region rfl ?_
       refine O_m rfl ?_
       refine O_y hs (Y_add (c := ((hi + 1 : Nat) : Int)) rfl rfl (by omega) (by omega) ?_)
       refine O_a rfl ?_
       refine O_nil ⟨_, ?_, [(1, _), (3, _), (4, _), (5, _), (6, _)], ⟨rfl, rfl, rfl, rfl, rfl, trivial⟩, ⟨hi + 1, n + hi - lo + 1, f1, UInt8.ofNat lo, _, _, by omega, by omega, by omega, by rw [hrun, hg1, if_pos (by omega), if_pos (by omega)]; simp only [List.append_assoc, List.nil_append], by omega, fun _ => hg3, rfl, rfl, hs⟩⟩
       omega
      ·
       dsimp only [cmpP] at h53
       refine O_nil (T_kp [1, 3, 4, 5, 7, 53] rfl ?_)
       refine T_condF rfl (T_skip ?_)
       refine T_region rfl ?_
       refine O_m rfl ?_
       refine O_a rfl ?_
       refine O_nil (T_kp [1, 3, 4, 5, 6] rfl ?_)
       refine T_region rfl ?_
       refine O_m rfl ?_
       refine O_y hs (Y_add (c := ((hi + 1 : Nat) : Int)) rfl rfl (by omega) (by omega) ?_)
       refine O_a rfl ?_
       refine O_nil ⟨_, ?_, [(1, _), (3, _), (4, _), (5, _), (6, _)], ⟨rfl, rfl, rfl, rfl, rfl, trivial⟩, ⟨hi + 1, n + hi - lo + 1, f1, UInt8.ofNat lo, _, _, by omega, by omega, by omega, by rw [hrun, hg1, if_pos (by omega), if_neg (by omega)]; simp only [List.append_assoc, List.nil_append], by omega, fun _ => hg3, rfl, rfl, hs⟩⟩
       omega
     ·
      dsimp only [cmpP] at h48
      refine O_nil (T_kp [1, 3, 4, 5, 6, 7, 48] rfl ?_)
      refine T_condF rfl (T_skip ?_)
      refine T_seq (T_seq (T_region rfl ?_))
      refine O_m rfl ?_
      refine O_m rfl ?_
      refine O_y hs (Y_cmpS rfl rfl rfl (fun h53 => ?_) (fun h53 => ?_))
      ·
       dsimp only [cmpP] at h53
       refine O_nil (T_kp [1, 3, 4, 5, 7, 53] rfl ?_)
       refine T_condT rfl (T_region rfl ?_)
       refine O_m rfl ?_
       refine O_m rfl ?_
       refine O_y hs (Y_conv Tryz.underlying3 Tryz.underlying5 (c := ((UInt8.ofNat (hi)).toNat : Int)) rfl (by rw [IntKind.wrap_u8, UInt8.toNat_ofNat']; omega) ?_)
       refine O_s (S_call (H1 := []) hs rfl Tryz.func85 rfl (by kernel_rfl) (rchtx_ok (b := (UInt8.ofNat (hi)))) fun v9 G' H' _ hR hG57 hs => ?_)
       obtain ⟨rfl, rfl⟩ := hR
       replace hs : St _ _ [_] _ := hs
       refine O_y hs (Y_cat rfl rfl (by have q1 := charT_len (UInt8.ofNat lo); have q2 := charT_len (UInt8.ofNat hi); (try simp only [List.length_append, List.length_cons, List.length_nil]); omega) ?_)
       refine O_a rfl ?_
       refine O_nil (T_kp [1, 3, 4, 5, 7] rfl ?_)
       refine T_region rfl ?_
       refine O_m rfl ?_
       refine O_a rfl ?_
       refine O_nil (T_kp [1, 3, 4, 5, 6] rfl ?_)
       refine T_region rfl ?_
       refine O_m rfl ?_
       refine O_y hs (Y_add (c := ((hi + 1 : Nat) : Int)) rfl rfl (by omega) (by omega) ?_)
       refine O_a rfl ?_
       refine O_nil ⟨_, ?_, [(1, _), (3, _), (4, _), (5, _), (6, _)], ⟨rfl, rfl, rfl, rfl, rfl, trivial⟩, ⟨hi + 1, n + hi - lo + 1, f1, UInt8.ofNat lo, _, _, by omega, by omega, by omega, by rw [hrun, hg1, if_neg (by omega), if_pos (by omega)]; simp only [List.append_assoc, List.nil_append], by omega, fun _ => hg3, rfl, rfl, hs⟩⟩
       omega
      ·
       dsimp only [cmpP] at h53
       refine O_nil (T_kp [1, 3, 4, 5, 7, 53] rfl ?_)
       refine T_condF rfl (T_skip ?_)
       refine T_region rfl ?_
       refine O_m rfl ?_
       refine O_a rfl ?_
       refine O_nil (T_kp [1, 3, 4, 5, 6] rfl ?_)
       refine T_region rfl ?_
       refine O_m rfl ?_
       refine O_y hs (Y_add (c := ((hi + 1 : Nat) : Int)) rfl rfl (by omega) (by omega) ?_)
       refine O_a rfl ?_
       refine O_nil ⟨_, ?_, [(1, _), (3, _), (4, _), (5, _), (6, _)], ⟨rfl, rfl, rfl, rfl, rfl, trivial⟩, ⟨hi + 1, n + hi - lo + 1, f1, UInt8.ofNat lo, _, _, by omega, by omega, by omega, by rw [hrun, hg1, if_neg (by omega), if_neg (by omega)]; simp only [List.append_assoc, List.nil_append], by omega, fun _ => hg3, rfl, rfl, hs⟩⟩
       omega
  ·
   dsimp only [cmpP] at h12
   refine O_nil (T_kp [1, 3, 4, 5, 6, 12] rfl ?_)
   refine T_condF rfl (T_exit ?_)
   obtain rfl : lo = 256 := by omega
   rw [sfx_end c (Nat.le_refl _)] at hrun hn
   have hrun' : runsT (membF c).length (membF c) = sx := by rw [hrun]; cases f <;> exact List.append_nil _
   have sx_len : sx.length ≤ 2304 := by rw [← hrun']; omega
   rw [List.length_nil] at hn
   refine T_seq (T_seq (T_region rfl ?_))
   refine O_m rfl ?_
   refine O_y hs (Y_cmpS rfl rfl rfl (fun h61 => ?_) (fun h61 => ?_))
   ·
    dsimp only [cmpP] at h61
    refine O_nil (T_kp [3, 5, 61] rfl ?_)
    refine T_condT rfl (T_seq (T_region rfl ?_))
    refine O_m rfl ?_
    refine O_s (S_call (H1 := []) hs rfl Tryz.func85 rfl (by kernel_rfl) (rchtx_ok (b := la)) fun v10 G' H' _ hR hG63 hs => ?_)
    obtain ⟨rfl, rfl⟩ := hR
    replace hs : St _ _ [_] _ := hs
    refine O_a rfl ?_
    refine O_nil (T_kp [2] rfl ?_)
    refine T_ret ?_
    refine Rt_fin (vs := [_]) Tryz.results63 rfl ⟨rfl, trivial⟩ ?_
    try dsimp only [tup]
    exact ⟨_, [], hs.done, rfl, by rw [classT_one (x := la) (by omega) (hla (by omega))]⟩
   ·
    dsimp only [cmpP] at h61
    refine O_nil (T_kp [3, 5, 61] rfl ?_)
    refine T_condF rfl (T_skip ?_)
    refine T_seq (T_region rfl ?_)
    refine O_m rfl ?_
    refine O_y hs (Y_cat rfl rfl (by simp only [List.length_append, List.length_cons, List.length_nil]; omega) ?_)
    refine O_y hs (Y_cat rfl rfl (by simp only [List.length_append, List.length_cons, List.length_nil]; omega) ?_)
    refine O_a rfl ?_
    refine O_nil (T_kp [2] rfl ?_)
    refine T_ret ?_
    refine Rt_fin (vs := [_]) Tryz.results63 rfl ⟨rfl, trivial⟩ ?_
    try dsimp only [tup]
    exact ⟨_, [], hs.done, rfl, by rw [classT_many (by omega) (fun h => h10 (memb_all hc h)), hrun']; rfl⟩

set_option maxHeartbeats 4000000 in
set_option maxRecDepth 10000 in
theorem rtext_ok {G : Ghost} {v : Value} {l : List NodeV} (hx : Rx G v l) (hl : l.length ≤ 1000000000) (hv0 : validF l = 0) :
  FnOk Tryz.prog 43 [v] G [] fun r _ H' => H' = [] ∧ r = strV ((textsF l l.length).getD (l.length - 1) []) := by
 obtain ⟨A, cap, rfl⟩ := LstR.slice hx
 have hcls := rx_cls hx
 have hv1 := ones_of hv0
 refine FnOk.of_T [(0, _)] Tryz.func43 rfl Tryz.ntmps43 (by simp) rfl fun w0 hs => ?_
 have hx0 := hx
 refine T_seq (T_region rfl ?_)
 refine O_a rfl ?_
 refine O_nil (T_kp [0] rfl ?_)
 refine T_seq (T_region rfl ?_)
 refine O_s (S_lit hs Tryz.underlying65 Tryz.sizeOf9 Tryz.zeroValue9 rfl rfl (by decide) (by decide) rfl (cs := []) rfl rfl fun v1 _ hs _ => ?_)
 refine O_a rfl ?_
 refine O_nil (T_kp [0, 3] rfl ?_)
 refine T_seq (T_seq (T_region rfl ?_))
 refine O_a rfl ?_
 refine O_nil (T_kp [0, 3, 4] rfl ?_)
 refine T_block (T_loop (fun m E w => ∃ (k : Nat) (v1 : Value) (G' : Ghost), k ≤ l.length ∧ m = l.length - k ∧ E = ⟨[], [(0, (.slice A l.length cap)), (3, v1), (4, .int .i64 (k : Int))]⟩ ∧ St ⟨w0, G, feet []⟩ G' [.row 9 1 v1 (textsF l k).length ((textsF l k).map strV)] w) (L := [(0, _), (3, _), (4, _)]) ⟨rfl, rfl, rfl, trivial⟩ (⟨0, _, _, by omega, rfl, rfl, hs⟩) fun m E w hI => ?_)
 obtain ⟨k, v1, G', hk, rfl, rfl, hs⟩ := hI
 have hx := hx0.mono hs.le
 have htl := textsF_len l k (by omega)
 refine T_seq (T_seq (T_region rfl ?_))
 refine O_m rfl ?_
 refine O_m rfl ?_
 refine O_y hs (Y_len Tryz.underlying24 rfl ?_)
 refine O_y hs (Y_cmpS rfl rfl rfl (fun h11 => ?_) (fun h11 => ?_))
 ·
  dsimp only [cmpP] at h11
  refine O_nil (T_kp [0, 3, 4, 11] rfl ?_)
  refine T_condT rfl (T_skip ?_)
  refine T_seq (T_block (T_seq (T_region rfl ?_)))
  refine O_m rfl ?_
  refine O_m rfl ?_
  refine O_y hs (Y_idxS hx k Tryz.underlying24 Tryz.sizeOf42 rfl rfl rfl (by omega) fun p16 c16 hp16 hc16 hR16 => ?_)
  obtain ⟨rfl, hco⟩ := hR16
  obtain ⟨nk, hnk⟩ : ∃ n, n = l[k] := ⟨_, rfl⟩
  have hne := err_at (l := l) 0 hv1.2.2.1 k (by omega) (Nat.zero_le _)
  have hfb := fmt_bound hv0 hcls (show k < l.length by omega)
  rw [← hnk] at hp16 hco hne hfb
  obtain ⟨kd, cc, ll, rr, mn, mx⟩ := nk
  obtain ⟨c0, c1, c2, c3, rfl⟩ := four_of hco.1
  have hop := nodeE_ops hne
  have hkd := nodeE_kind hne
  dsimp only at hkd
  refine O_y hs (Y_ldAG (vs := [.int .i64 kd, u64V c0, u64V c1, u64V c2, u64V c3, .int .i64 ll, .int .i64 rr, .int .i64 mn, .int .i64 mx]) Tryz.isAgg42 Tryz.sizeOf42 rfl hp16 rfl ?_)
  refine O_s (S_alloc hs Tryz.zeroValue42 (cs := [_, _, _, _, _, _, _, _, _]) rfl fun b5 _ hs => ?_)
  refine O_n (S_stA hs Tryz.sizeOf42 rfl rfl (vs := [_, _, _, _, _, _, _, _, _]) rfl (rfl) (by simp) (cs' := [_, _, _, _, _, _, _, _, _]) rfl fun _ hs => ?_)
  refine O_nil (T_kp [0, 3, 4, 5] rfl ?_)
  refine T_seq (T_region rfl ?_)
  refine O_a rfl ?_
  refine O_nil (T_kp [0, 3, 4, 5, 6] rfl ?_)
  refine T_seq (T_seq (T_region rfl ?_))
  refine O_y hs (Y_fieldAddr FO42_0 rfl (m := 0) rfl ?_)
  refine O_y hs (Y_ld 0 Tryz.isAgg3 rfl rfl rfl ?_)
  refine O_nil (T_kp [0, 3, 4, 5, 6, 19] rfl ?_)
  refine T_block (T_seq (T_region rfl ?_))
  refine O_y hs (Y_cmpS rfl rfl rfl (fun h21 => ?_) (fun h21 => ?_))
  ·
   dsimp only [cmpP] at h21
   refine O_a rfl ?_
   refine O_nil (T_kp [0, 3, 4, 5, 6, 19, 20] rfl ?_)
   refine T_condT rfl (T_region rfl ?_)
   refine O_a rfl ?_
   refine O_nil (T_kp [0, 3, 4, 6] rfl ?_)
   refine T_region rfl ?_
   refine O_m rfl ?_
   refine O_m rfl ?_
   refine O_s (S_lit hs Tryz.underlying65 Tryz.sizeOf9 Tryz.zeroValue9 rfl rfl (by decide) (by decide) rfl (cs := [_]) rfl rfl fun v2 _ hs _ => ?_)
   obtain ⟨_, hG90, hl90, hs⟩ := hs.fixRow noM
   replace hx := hx.mono hG90
   have hs := hs.f1
   refine O_s (S_append hs Tryz.underlying65 TI9 rfl (by decide) rfl rfl (hl90) (one1 rfl) (by omega) (by omega) fun v3 _ hs => ?_)
   refine O_a rfl ?_
   refine O_nil (T_kp [0, 3, 4] rfl ?_)
   refine T_region rfl ?_
   refine O_m rfl ?_
   refine O_y hs (Y_add (c := ((k + 1 : Nat) : Int)) rfl rfl (by omega) (by omega) ?_)
   refine O_a rfl ?_
   have hnt : nodeT l (textsF l k) ⟨kd, [c0, c1, c2, c3], ll, rr, mn, mx⟩ = [33] := by unfold nodeT; rw [if_pos (by dsimp only; omega)]; try rfl
   have hsc := textsF_succ l k (by omega)
   rw [← hnk, hnt] at hsc
   refine O_nil ⟨_, ?_, [(0, _), (3, _), (4, _)], ⟨rfl, rfl, rfl, trivial⟩, ⟨k + 1, v3, _, by omega, rfl, rfl, by rw [hsc, List.map_append, List.length_append]; exact hs.weak hs.le (Ghost.le.refl _) (List.sublist_append_left [_] _)⟩⟩
   omega
  ·
   dsimp only [cmpP] at h21
   refine O_a rfl ?_
   refine O_nil (T_kp [0, 3, 4, 5, 6, 19, 20] rfl ?_)
   refine T_condF rfl (T_seq (T_region rfl ?_))
   refine O_y hs (Y_cmpS rfl rfl rfl (fun h23 => ?_) (fun h23 => ?_))
   ·
    dsimp only [cmpP] at h23
    refine O_a rfl ?_
    refine O_nil (T_kp [0, 3, 4, 5, 6, 19, 22] rfl ?_)
    refine T_condT rfl (T_region rfl ?_)
    refine O_a rfl ?_
    refine O_nil (T_kp [0, 3, 4, 6] rfl ?_)
    refine T_region rfl ?_
    refine O_m rfl ?_
    refine O_m rfl ?_
    refine O_s (S_lit hs Tryz.underlying65 Tryz.sizeOf9 Tryz.zeroValue9 rfl rfl (by decide) (by decide) rfl (cs := [_]) rfl rfl fun v4 _ hs _ => ?_)
    obtain ⟨_, hG90, hl90, hs⟩ := hs.fixRow noM
    replace hx := hx.mono hG90
    have hs := hs.f1
    refine O_s (S_append hs Tryz.underlying65 TI9 rfl (by decide) rfl rfl (hl90) (one1 rfl) (by omega) (by omega) fun v5 _ hs => ?_)
    refine O_a rfl ?_
    refine O_nil (T_kp [0, 3, 4] rfl ?_)
    refine T_region rfl ?_
    refine O_m rfl ?_
    refine O_y hs (Y_add (c := ((k + 1 : Nat) : Int)) rfl rfl (by omega) (by omega) ?_)
    refine O_a rfl ?_
    have hnt : nodeT l (textsF l k) ⟨kd, [c0, c1, c2, c3], ll, rr, mn, mx⟩ = [40, 41] := by unfold nodeT; rw [if_neg (by dsimp only; omega), if_pos (by dsimp only; omega)]; try rfl
    have hsc := textsF_succ l k (by omega)
    rw [← hnk, hnt] at hsc
    refine O_nil ⟨_, ?_, [(0, _), (3, _), (4, _)], ⟨rfl, rfl, rfl, trivial⟩, ⟨k + 1, v5, _, by omega, rfl, rfl, by rw [hsc, List.map_append, List.length_append]; exact hs.weak hs.le (Ghost.le.refl _) (List.sublist_append_left [_] _)⟩⟩
    omega
   ·
    dsimp only [cmpP] at h23
    refine O_a rfl ?_
    refine O_nil (T_kp [0, 3, 4, 5, 6, 19, 22] rfl ?_)
    refine T_condF rfl (T_seq (T_region rfl ?_))
    refine O_y hs (Y_cmpS rfl rfl rfl (fun h25 => ?_) (fun h25 => ?_))
    ·
     dsimp only [cmpP] at h25
     refine O_a rfl ?_
     refine O_nil (T_kp [0, 3, 4, 5, 6, 19, 24] rfl ?_)
     refine T_condT rfl (T_region rfl ?_)
     refine O_y hs (Y_fieldAddr FO42_1 rfl (m := 1) rfl ?_)
     refine O_y hs (Y_ldA 0 Tryz.isAgg40 Tryz.sizeOf40 rfl rfl (vs := [_, _, _, _]) rfl rfl ?_)
     refine O_s (S_call (H1 := []) hs rfl Tryz.func63 rfl (by kernel_rfl) (rcltx_ok (c := [c0, c1, c2, c3]) hco) fun v6 G' H' _ hR hG28 hs => ?_)
     obtain ⟨rfl, rfl⟩ := hR
     replace hs : St _ _ [_, _] _ := hs
     replace hx := hx.mono hG28
     refine O_a rfl ?_
     refine O_nil (T_kp [0, 3, 4, 6] rfl ?_)
     refine T_region rfl ?_
     refine O_m rfl ?_
     refine O_m rfl ?_
     refine O_s (S_lit hs Tryz.underlying65 Tryz.sizeOf9 Tryz.zeroValue9 rfl rfl (by decide) (by decide) rfl (cs := [_]) rfl rfl fun v7 _ hs _ => ?_)
     obtain ⟨_, hG90, hl90, hs⟩ := hs.fixRow noM
     replace hx := hx.mono hG90
     have hs := hs.f1
     refine O_s (S_append hs Tryz.underlying65 TI9 rfl (by decide) rfl rfl (hl90) (one1 rfl) (by omega) (by omega) fun v8 _ hs => ?_)
     refine O_a rfl ?_
     refine O_nil (T_kp [0, 3, 4] rfl ?_)
     refine T_region rfl ?_
     refine O_m rfl ?_
     refine O_y hs (Y_add (c := ((k + 1 : Nat) : Int)) rfl rfl (by omega) (by omega) ?_)
     refine O_a rfl ?_
     have hnt : nodeT l (textsF l k) ⟨kd, [c0, c1, c2, c3], ll, rr, mn, mx⟩ = classT (bytesF [c0, c1, c2, c3]) := by unfold nodeT; rw [if_neg (by dsimp only; omega), if_neg (by dsimp only; omega), if_pos (by dsimp only; omega)]; try rfl
     have hsc := textsF_succ l k (by omega)
     rw [← hnk, hnt, bytes_memb hco] at hsc
     refine O_nil ⟨_, ?_, [(0, _), (3, _), (4, _)], ⟨rfl, rfl, rfl, trivial⟩, ⟨k + 1, v8, _, by omega, rfl, rfl, by rw [hsc, List.map_append, List.length_append]; exact hs.weak hs.le (Ghost.le.refl _) (List.sublist_append_left [_] _)⟩⟩
     omega
    ·
     dsimp only [cmpP] at h25
     refine O_a rfl ?_
     refine O_nil (T_kp [0, 3, 4, 5, 6, 19, 24] rfl ?_)
     refine T_condF rfl (T_seq (T_region rfl ?_))
     refine O_y hs (Y_cmpS rfl rfl rfl (fun h30 => ?_) (fun h30 => ?_))
     ·
      dsimp only [cmpP] at h30
      refine O_a rfl ?_
      refine O_nil (T_kp [0, 3, 4, 5, 6, 19, 29] rfl ?_)
      have ha := arF_2 (k := kd) (by omega)
      have hl12 := ops_l hop (by dsimp only; omega)
      dsimp only at hl12
      obtain ⟨L, rfl⟩ : ∃ L : Nat, ll = (L : Int) := Int.eq_ofNat_of_zero_le hl12.1
      have hbL : ((textsF l k).getD L []).length ≤ 480000 := hfb.1 (by dsimp only; omega)
      have hr12 := ops_r hop (by dsimp only; omega)
      dsimp only at hr12
      obtain ⟨R, rfl⟩ : ∃ R : Nat, rr = (R : Int) := Int.eq_ofNat_of_zero_le hr12.1
      have hbR : ((textsF l k).getD R []).length ≤ 480000 := hfb.2 (by dsimp only; omega)
      have hw0 := wrap_len l (textsF l k) [5, 6] L
      have hw1 := wrap_len l (textsF l k) [4, 5, 6] R
      obtain ⟨bT, cT, rfl, _⟩ := hs.rowForm 1 rfl (by omega)
      have hs := hs.f1
      refine T_condT rfl (T_drawS [0, 1, 2, 3, 4, 5, 6, 7, 8, 9, 10, 11] hs (by kernel_rfl) ?_)
      replace hs := hs.drew
      refine A_take 0 rfl (by kernel_rfl) rfl hs (Y_move rfl ?_)
      refine A_take 1 rfl (by kernel_rfl) rfl hs (Y_move rfl ?_)
      refine A_take 2 rfl (by kernel_rfl) rfl hs (Y_fieldAddr FO42_2 rfl (m := 5) rfl ?_)
      refine A_take 3 rfl (by kernel_rfl) rfl hs (Y_ld 1 Tryz.isAgg3 rfl rfl rfl ?_)
      refine A_take 5 rfl (by kernel_rfl) rfl hs (Y_move rfl ?_)
      refine A_take 6 rfl (by kernel_rfl) rfl hs (Y_move rfl ?_)
      refine A_take 7 rfl (by kernel_rfl) rfl hs (Y_fieldAddr FO42_3 rfl (m := 6) rfl ?_)
      refine A_take 8 rfl (by kernel_rfl) rfl hs (Y_ld 1 Tryz.isAgg3 rfl rfl rfl ?_)
      have hle := hs.le
      refine A_only 4 rfl (by kernel_rfl) rfl (S_call (H1 := [_]) hs rfl Tryz.func64 rfl (by kernel_rfl) (rwrap_ok (T := textsF l k) (i := L) (k := 2) hx (by omega) (by omega) (by omega) (by decide) (by omega)) fun v9 G' H' _ hR hG35 hs => ?_)
      obtain ⟨rfl, rfl⟩ := hR
      replace hs : St _ _ [_, _] _ := hs
      replace hx := hx.mono hG35
      refine A_moreS hs hle hG35 (List.Sublist.refl _) ?_
      have hle := hs.le
      refine A_only 9 rfl (by kernel_rfl) rfl (S_call (H1 := [_]) hs rfl Tryz.func64 rfl (by kernel_rfl) (rwrap_ok (T := textsF l k) (i := R) (k := 3) hx (by omega) (by omega) (by omega) (by decide) (by omega)) fun v10 G' H' _ hR hG40 hs => ?_)
      obtain ⟨rfl, rfl⟩ := hR
      replace hs : St _ _ [_, _] _ := hs
      replace hx := hx.mono hG40
      refine A_moreS hs hle hG40 (List.Sublist.refl _) ?_
      refine A_take 10 rfl (by kernel_rfl) rfl hs (Y_cat rfl rfl (by simp only [List.length_append, List.length_cons, List.length_nil, lessK]; omega) ?_)
      refine A_take 11 rfl (by kernel_rfl) rfl hs (Y_assign rfl ?_)
      refine A_done (by kernel_rfl) (T_kp [0, 3, 4, 6] rfl ?_)
      refine T_region rfl ?_
      refine O_m rfl ?_
      refine O_m rfl ?_
      refine O_s (S_lit hs Tryz.underlying65 Tryz.sizeOf9 Tryz.zeroValue9 rfl rfl (by decide) (by decide) rfl (cs := [_]) rfl rfl fun v11 _ hs _ => ?_)
      obtain ⟨_, hG90, hl90, hs⟩ := hs.fixRow noM
      replace hx := hx.mono hG90
      refine O_s (S_append hs Tryz.underlying65 TI9 rfl (by decide) rfl rfl (hl90) (one1 rfl) (by omega) (by omega) fun v12 _ hs => ?_)
      refine O_a rfl ?_
      refine O_nil (T_kp [0, 3, 4] rfl ?_)
      refine T_region rfl ?_
      refine O_m rfl ?_
      refine O_y hs (Y_add (c := ((k + 1 : Nat) : Int)) rfl rfl (by omega) (by omega) ?_)
      refine O_a rfl ?_
      have hnt : nodeT l (textsF l k) ⟨kd, [c0, c1, c2, c3], (L : Int), (R : Int), mn, mx⟩ = wrapF l (textsF l k) [5, 6] L ++ wrapF l (textsF l k) [4, 5, 6] R := by unfold nodeT; rw [if_neg (by dsimp only; omega), if_neg (by dsimp only; omega), if_neg (by dsimp only; omega), if_pos (by dsimp only; omega)]; try rfl
      have hsc := textsF_succ l k (by omega)
      rw [← hnk, hnt] at hsc
      refine O_nil ⟨_, ?_, [(0, _), (3, _), (4, _)], ⟨rfl, rfl, rfl, trivial⟩, ⟨k + 1, v12, _, by omega, rfl, rfl, by rw [hsc, List.map_append, List.length_append]; exact hs.weak hs.le (Ghost.le.refl _) (List.sublist_append_left [_] _)⟩⟩
      omega
     ·
      dsimp only [cmpP] at h30
      refine O_a rfl ?_
      refine O_nil (T_kp [0, 3, 4, 5, 6, 19, 29] rfl ?_)
      refine T_condF rfl (T_seq (T_region rfl ?_))
      refine O_y hs (Y_cmpS rfl rfl rfl (fun h43 => ?_) (fun h43 => ?_))
      ·
       dsimp only [cmpP] at h43
       refine O_a rfl ?_
       refine O_nil (T_kp [0, 3, 4, 5, 6, 19, 42] rfl ?_)
       have ha := arF_2 (k := kd) (by omega)
       have hl12 := ops_l hop (by dsimp only; omega)
       dsimp only at hl12
       obtain ⟨L, rfl⟩ : ∃ L : Nat, ll = (L : Int) := Int.eq_ofNat_of_zero_le hl12.1
       have hbL : ((textsF l k).getD L []).length ≤ 480000 := hfb.1 (by dsimp only; omega)
       have hr12 := ops_r hop (by dsimp only; omega)
       dsimp only at hr12
       obtain ⟨R, rfl⟩ : ∃ R : Nat, rr = (R : Int) := Int.eq_ofNat_of_zero_le hr12.1
       have hbR : ((textsF l k).getD R []).length ≤ 480000 := hfb.2 (by dsimp only; omega)
       have hw0 := wrap_len l (textsF l k) [5] L
       have hw1 := wrap_len l (textsF l k) [5, 6] R
       obtain ⟨bT, cT, rfl, _⟩ := hs.rowForm 1 rfl (by omega)
       have hs := hs.f1
       refine T_condT rfl (T_drawS [0, 1, 2, 3, 4, 5, 6, 7, 8, 9, 10, 11, 12] hs (by kernel_rfl) ?_)
       replace hs := hs.drew
       refine A_take 0 rfl (by kernel_rfl) rfl hs (Y_move rfl ?_)
       refine A_take 1 rfl (by kernel_rfl) rfl hs (Y_move rfl ?_)
       refine A_take 2 rfl (by kernel_rfl) rfl hs (Y_fieldAddr FO42_2 rfl (m := 5) rfl ?_)
       refine A_take 3 rfl (by kernel_rfl) rfl hs (Y_ld 1 Tryz.isAgg3 rfl rfl rfl ?_)
       refine A_take 6 rfl (by kernel_rfl) rfl hs (Y_move rfl ?_)
       refine A_take 7 rfl (by kernel_rfl) rfl hs (Y_move rfl ?_)
       refine A_take 8 rfl (by kernel_rfl) rfl hs (Y_fieldAddr FO42_3 rfl (m := 6) rfl ?_)
       refine A_take 9 rfl (by kernel_rfl) rfl hs (Y_ld 1 Tryz.isAgg3 rfl rfl rfl ?_)
       have hle := hs.le
       refine A_only 4 rfl (by kernel_rfl) rfl (S_call (H1 := [_]) hs rfl Tryz.func64 rfl (by kernel_rfl) (rwrap_ok (T := textsF l k) (i := L) (k := 1) hx (by omega) (by omega) (by omega) (by decide) (by omega)) fun v13 G' H' _ hR hG48 hs => ?_)
       obtain ⟨rfl, rfl⟩ := hR
       replace hs : St _ _ [_, _] _ := hs
       replace hx := hx.mono hG48
       refine A_moreS hs hle hG48 (List.Sublist.refl _) ?_
       refine A_take 5 rfl (by kernel_rfl) rfl hs (Y_cat rfl rfl (by simp only [List.length_append, List.length_cons, List.length_nil, lessK]; omega) ?_)
       have hle := hs.le
       refine A_only 10 rfl (by kernel_rfl) rfl (S_call (H1 := [_]) hs rfl Tryz.func64 rfl (by kernel_rfl) (rwrap_ok (T := textsF l k) (i := R) (k := 2) hx (by omega) (by omega) (by omega) (by decide) (by omega)) fun v14 G' H' _ hR hG54 hs => ?_)
       obtain ⟨rfl, rfl⟩ := hR
       replace hs : St _ _ [_, _] _ := hs
       replace hx := hx.mono hG54
       refine A_moreS hs hle hG54 (List.Sublist.refl _) ?_
       refine A_take 11 rfl (by kernel_rfl) rfl hs (Y_cat rfl rfl (by simp only [List.length_append, List.length_cons, List.length_nil, lessK]; omega) ?_)
       refine A_take 12 rfl (by kernel_rfl) rfl hs (Y_assign rfl ?_)
       refine A_done (by kernel_rfl) (T_kp [0, 3, 4, 6] rfl ?_)
       refine T_region rfl ?_
       refine O_m rfl ?_
       refine O_m rfl ?_
       refine O_s (S_lit hs Tryz.underlying65 Tryz.sizeOf9 Tryz.zeroValue9 rfl rfl (by decide) (by decide) rfl (cs := [_]) rfl rfl fun v15 _ hs _ => ?_)
       obtain ⟨_, hG90, hl90, hs⟩ := hs.fixRow noM
       replace hx := hx.mono hG90
       refine O_s (S_append hs Tryz.underlying65 TI9 rfl (by decide) rfl rfl (hl90) (one1 rfl) (by omega) (by omega) fun v16 _ hs => ?_)
       refine O_a rfl ?_
       refine O_nil (T_kp [0, 3, 4] rfl ?_)
       refine T_region rfl ?_
       refine O_m rfl ?_
       refine O_y hs (Y_add (c := ((k + 1 : Nat) : Int)) rfl rfl (by omega) (by omega) ?_)
       refine O_a rfl ?_
       have hnt : nodeT l (textsF l k) ⟨kd, [c0, c1, c2, c3], (L : Int), (R : Int), mn, mx⟩ = wrapF l (textsF l k) [5] L ++ [38] ++ wrapF l (textsF l k) [5, 6] R := by unfold nodeT; rw [if_neg (by dsimp only; omega), if_neg (by dsimp only; omega), if_neg (by dsimp only; omega), if_neg (by dsimp only; omega), if_neg (by dsimp only; omega), if_pos (by dsimp only; omega)]; try rfl
       have hsc := textsF_succ l k (by omega)
       rw [← hnk, hnt] at hsc
       refine O_nil ⟨_, ?_, [(0, _), (3, _), (4, _)], ⟨rfl, rfl, rfl, trivial⟩, ⟨k + 1, v16, _, by omega, rfl, rfl, by rw [hsc, List.map_append, List.length_append]; exact hs.weak hs.le (Ghost.le.refl _) (List.sublist_append_left [_] _)⟩⟩
       omega
      ·
       dsimp only [cmpP] at h43
       refine O_a rfl ?_
       refine O_nil (T_kp [0, 3, 4, 5, 6, 19, 42] rfl ?_)
       refine T_condF rfl (T_seq (T_region rfl ?_))
       refine O_y hs (Y_cmpS rfl rfl rfl (fun h57 => ?_) (fun h57 => ?_))
       ·
        dsimp only [cmpP] at h57
        refine O_a rfl ?_
        refine O_nil (T_kp [0, 3, 4, 5, 6, 19, 56] rfl ?_)
        have ha := arF_2 (k := kd) (by omega)
        have hl12 := ops_l hop (by dsimp only; omega)
        dsimp only at hl12
        obtain ⟨L, rfl⟩ : ∃ L : Nat, ll = (L : Int) := Int.eq_ofNat_of_zero_le hl12.1
        have hbL : ((textsF l k).getD L []).length ≤ 480000 := hfb.1 (by dsimp only; omega)
        have hr12 := ops_r hop (by dsimp only; omega)
        dsimp only at hr12
        obtain ⟨R, rfl⟩ : ∃ R : Nat, rr = (R : Int) := Int.eq_ofNat_of_zero_le hr12.1
        have hbR : ((textsF l k).getD R []).length ≤ 480000 := hfb.2 (by dsimp only; omega)
        have hw0 := wrap_len l (textsF l k) [5] R
        obtain ⟨bT, cT, rfl, _⟩ := hs.rowForm 1 rfl (by omega)
        have hs := hs.f1
        refine T_condT rfl (T_drawS [0, 1, 2, 3, 4, 5, 6, 7, 8, 9, 10, 11, 12] hs (by kernel_rfl) ?_)
        replace hs := hs.drew
        refine A_take 0 rfl (by kernel_rfl) rfl hs (Y_move rfl ?_)
        refine A_take 1 rfl (by kernel_rfl) rfl hs (Y_fieldAddr FO42_2 rfl (m := 5) rfl ?_)
        refine A_take 2 rfl (by kernel_rfl) rfl hs (Y_ld 1 Tryz.isAgg3 rfl rfl rfl ?_)
        refine A_take 3 rfl (by kernel_rfl) rfl hs (Y_idxRow (L) Tryz.underlying65 Tryz.sizeOf9 rfl rfl rfl (by omega) ?_)
        refine A_take 4 rfl (by kernel_rfl) rfl hs (Y_ldRow 0 rfl Tryz.isAgg9 rfl (row_at (by omega)) ?_)
        refine A_take 5 rfl (by kernel_rfl) rfl hs (Y_cat rfl rfl (by simp only [List.length_append, List.length_cons, List.length_nil, lessK]; omega) ?_)
        refine A_take 6 rfl (by kernel_rfl) rfl hs (Y_move rfl ?_)
        refine A_take 7 rfl (by kernel_rfl) rfl hs (Y_move rfl ?_)
        refine A_take 8 rfl (by kernel_rfl) rfl hs (Y_fieldAddr FO42_3 rfl (m := 6) rfl ?_)
        refine A_take 9 rfl (by kernel_rfl) rfl hs (Y_ld 1 Tryz.isAgg3 rfl rfl rfl ?_)
        have hle := hs.le
        refine A_only 10 rfl (by kernel_rfl) rfl (S_call (H1 := [_]) hs rfl Tryz.func64 rfl (by kernel_rfl) (rwrap_ok (T := textsF l k) (i := R) (k := 1) hx (by omega) (by omega) (by omega) (by decide) (by omega)) fun v17 G' H' _ hR hG68 hs => ?_)
        obtain ⟨rfl, rfl⟩ := hR
        replace hs : St _ _ [_, _] _ := hs
        replace hx := hx.mono hG68
        refine A_moreS hs hle hG68 (List.Sublist.refl _) ?_
        refine A_take 11 rfl (by kernel_rfl) rfl hs (Y_cat rfl rfl (by simp only [List.length_append, List.length_cons, List.length_nil, lessK]; omega) ?_)
        refine A_take 12 rfl (by kernel_rfl) rfl hs (Y_assign rfl ?_)
        refine A_done (by kernel_rfl) (T_kp [0, 3, 4, 6] rfl ?_)
        refine T_region rfl ?_
        refine O_m rfl ?_
        refine O_m rfl ?_
        refine O_s (S_lit hs Tryz.underlying65 Tryz.sizeOf9 Tryz.zeroValue9 rfl rfl (by decide) (by decide) rfl (cs := [_]) rfl rfl fun v18 _ hs _ => ?_)
        obtain ⟨_, hG90, hl90, hs⟩ := hs.fixRow noM
        replace hx := hx.mono hG90
        refine O_s (S_append hs Tryz.underlying65 TI9 rfl (by decide) rfl rfl (hl90) (one1 rfl) (by omega) (by omega) fun v19 _ hs => ?_)
        refine O_a rfl ?_
        refine O_nil (T_kp [0, 3, 4] rfl ?_)
        refine T_region rfl ?_
        refine O_m rfl ?_
        refine O_y hs (Y_add (c := ((k + 1 : Nat) : Int)) rfl rfl (by omega) (by omega) ?_)
        refine O_a rfl ?_
        have hnt : nodeT l (textsF l k) ⟨kd, [c0, c1, c2, c3], (L : Int), (R : Int), mn, mx⟩ = (textsF l k).getD L [] ++ [124] ++ wrapF l (textsF l k) [5] R := by unfold nodeT; rw [if_neg (by dsimp only; omega), if_neg (by dsimp only; omega), if_neg (by dsimp only; omega), if_neg (by dsimp only; omega), if_pos (by dsimp only; omega)]; try rfl
        have hsc := textsF_succ l k (by omega)
        rw [← hnk, hnt] at hsc
        refine O_nil ⟨_, ?_, [(0, _), (3, _), (4, _)], ⟨rfl, rfl, rfl, trivial⟩, ⟨k + 1, v19, _, by omega, rfl, rfl, by rw [hsc, List.map_append, List.length_append]; exact hs.weak hs.le (Ghost.le.refl _) (List.sublist_append_left [_] _)⟩⟩
        omega
       ·
        dsimp only [cmpP] at h57
        refine O_a rfl ?_
        refine O_nil (T_kp [0, 3, 4, 5, 6, 19, 56] rfl ?_)
        refine T_condF rfl (T_seq (T_region rfl ?_))
        refine O_y hs (Y_cmpS rfl rfl rfl (fun h71 => ?_) (fun h71 => ?_))
        ·
         dsimp only [cmpP] at h71
         refine O_a rfl ?_
         refine O_nil (T_kp [0, 3, 4, 5, 6, 19, 70] rfl ?_)
         have ha := arF_1 (k := kd) (by omega)
         have hl12 := ops_l hop (by dsimp only; omega)
         dsimp only at hl12
         obtain ⟨L, rfl⟩ : ∃ L : Nat, ll = (L : Int) := Int.eq_ofNat_of_zero_le hl12.1
         have hbL : ((textsF l k).getD L []).length ≤ 480000 := hfb.1 (by dsimp only; omega)
         have hw0 := wrap_len l (textsF l k) [4, 5, 6] L
         obtain ⟨bT, cT, rfl, _⟩ := hs.rowForm 1 rfl (by omega)
         have hs := hs.f1
         refine T_condT rfl (T_region rfl ?_)
         refine O_m rfl ?_
         refine O_m rfl ?_
         refine O_y hs (Y_fieldAddr FO42_2 rfl (m := 5) rfl ?_)
         refine O_y hs (Y_ld 1 Tryz.isAgg3 rfl rfl rfl ?_)
         refine O_s (S_call (H1 := [_]) hs rfl Tryz.func64 rfl (by kernel_rfl) (rwrap_ok (T := textsF l k) (i := L) (k := 3) hx (by omega) (by omega) (by omega) (by decide) (by omega)) fun v20 G' H' _ hR hG76 hs => ?_)
         obtain ⟨rfl, rfl⟩ := hR
         replace hs : St _ _ [_, _] _ := hs
         replace hx := hx.mono hG76
         refine O_y hs (Y_cat rfl rfl (by simp only [List.length_append, List.length_cons, List.length_nil, lessK]; omega) ?_)
         refine O_a rfl ?_
         refine O_nil (T_kp [0, 3, 4, 6] rfl ?_)
         refine T_region rfl ?_
         refine O_m rfl ?_
         refine O_m rfl ?_
         refine O_s (S_lit hs Tryz.underlying65 Tryz.sizeOf9 Tryz.zeroValue9 rfl rfl (by decide) (by decide) rfl (cs := [_]) rfl rfl fun v21 _ hs _ => ?_)
         obtain ⟨_, hG90, hl90, hs⟩ := hs.fixRow noM
         replace hx := hx.mono hG90
         refine O_s (S_append hs Tryz.underlying65 TI9 rfl (by decide) rfl rfl (hl90) (one1 rfl) (by omega) (by omega) fun v22 _ hs => ?_)
         refine O_a rfl ?_
         refine O_nil (T_kp [0, 3, 4] rfl ?_)
         refine T_region rfl ?_
         refine O_m rfl ?_
         refine O_y hs (Y_add (c := ((k + 1 : Nat) : Int)) rfl rfl (by omega) (by omega) ?_)
         refine O_a rfl ?_
         have hnt : nodeT l (textsF l k) ⟨kd, [c0, c1, c2, c3], (L : Int), rr, mn, mx⟩ = [126] ++ wrapF l (textsF l k) [4, 5, 6] L := by unfold nodeT; rw [if_neg (by dsimp only; omega), if_neg (by dsimp only; omega), if_neg (by dsimp only; omega), if_neg (by dsimp only; omega), if_neg (by dsimp only; omega), if_neg (by dsimp only; omega), if_pos (by dsimp only; omega)]; try rfl
         have hsc := textsF_succ l k (by omega)
         rw [← hnk, hnt] at hsc
         refine O_nil ⟨_, ?_, [(0, _), (3, _), (4, _)], ⟨rfl, rfl, rfl, trivial⟩, ⟨k + 1, v22, _, by omega, rfl, rfl, by rw [hsc, List.map_append, List.length_append]; exact hs.weak hs.le (Ghost.le.refl _) (List.sublist_append_left [_] _)⟩⟩
         omega
        ·
         dsimp only [cmpP] at h71
         refine O_a rfl ?_
         refine O_nil (T_kp [0, 3, 4, 5, 6, 19, 70] rfl ?_)
         refine T_condF rfl (T_seq (T_region rfl ?_))
         refine O_y hs (Y_cmpT rfl rfl rfl (by omega) ?_)
         refine O_a rfl ?_
         refine O_nil (T_kp [0, 3, 4, 5, 6, 78] rfl ?_)
         have ha := arF_1 (k := kd) (by omega)
         have hrg := rep_rng hne (by dsimp only; omega)
         dsimp only at hrg
         have hl12 := ops_l hop (by dsimp only; omega)
         dsimp only at hl12
         obtain ⟨L, rfl⟩ : ∃ L : Nat, ll = (L : Int) := Int.eq_ofNat_of_zero_le hl12.1
         have hbL : ((textsF l k).getD L []).length ≤ 480000 := hfb.1 (by dsimp only; omega)
         have hw0 := wrap_len l (textsF l k) [4, 5, 6, 7] L
         obtain ⟨bT, cT, rfl, _⟩ := hs.rowForm 1 rfl (by omega)
         have hs := hs.f1
         refine T_condT rfl (T_drawS [0, 1, 2, 3, 4, 5, 6, 7, 8] hs (by kernel_rfl) ?_)
         replace hs := hs.drew
         refine A_take 0 rfl (by kernel_rfl) rfl hs (Y_move rfl ?_)
         refine A_take 1 rfl (by kernel_rfl) rfl hs (Y_move rfl ?_)
         refine A_take 2 rfl (by kernel_rfl) rfl hs (Y_fieldAddr FO42_2 rfl (m := 5) rfl ?_)
         refine A_take 3 rfl (by kernel_rfl) rfl hs (Y_ld 1 Tryz.isAgg3 rfl rfl rfl ?_)
         refine A_take 5 rfl (by kernel_rfl) rfl hs (Y_ldA 1 Tryz.isAgg42 Tryz.sizeOf42 rfl rfl (vs := [_, _, _, _, _, _, _, _, _]) rfl rfl ?_)
         have hle := hs.le
         refine A_only 4 rfl (by kernel_rfl) rfl (S_call (H1 := [_]) hs rfl Tryz.func64 rfl (by kernel_rfl) (rwrap_ok (T := textsF l k) (i := L) (k := 4) hx (by omega) (by omega) (by omega) (by decide) (by omega)) fun v23 G' H' _ hR hG84 hs => ?_)
         obtain ⟨rfl, rfl⟩ := hR
         replace hs : St _ _ [_, _] _ := hs
         replace hx := hx.mono hG84
         refine A_moreS hs hle hG84 (List.Sublist.refl _) ?_
         have hle := hs.le
         refine A_only 6 rfl (by kernel_rfl) rfl (S_call (H1 := []) hs rfl Tryz.func65 rfl (by kernel_rfl) (rsuf_ok hrg.1 hrg.2.1 hrg.2.2.1 hrg.2.2.2) fun v24 G' H' _ hR hG86 hs => ?_)
         obtain ⟨rfl, rfl⟩ := hR
         replace hs : St _ _ [_, _] _ := hs
         replace hx := hx.mono hG86
         refine A_moreS hs hle hG86 (List.Sublist.refl _) ?_
         refine A_take 7 rfl (by kernel_rfl) rfl hs (Y_cat rfl rfl (by have hq := sufT_len mn mx; have hw0' := hw0; simp only [lessK]; omega) ?_)
         refine A_take 8 rfl (by kernel_rfl) rfl hs (Y_assign rfl ?_)
         refine A_done (by kernel_rfl) (T_kp [0, 3, 4, 6] rfl ?_)
         refine T_region rfl ?_
         refine O_m rfl ?_
         refine O_m rfl ?_
         refine O_s (S_lit hs Tryz.underlying65 Tryz.sizeOf9 Tryz.zeroValue9 rfl rfl (by decide) (by decide) rfl (cs := [_]) rfl rfl fun v25 _ hs _ => ?_)
         obtain ⟨_, hG90, hl90, hs⟩ := hs.fixRow noM
         replace hx := hx.mono hG90
         refine O_s (S_append hs Tryz.underlying65 TI9 rfl (by decide) rfl rfl (hl90) (one1 rfl) (by omega) (by omega) fun v26 _ hs => ?_)
         refine O_a rfl ?_
         refine O_nil (T_kp [0, 3, 4] rfl ?_)
         refine T_region rfl ?_
         refine O_m rfl ?_
         refine O_y hs (Y_add (c := ((k + 1 : Nat) : Int)) rfl rfl (by omega) (by omega) ?_)
         refine O_a rfl ?_
         have hnt : nodeT l (textsF l k) ⟨kd, [c0, c1, c2, c3], (L : Int), rr, mn, mx⟩ = wrapF l (textsF l k) [4, 5, 6, 7] L ++ sufT mn mx := by unfold nodeT; rw [if_neg (by dsimp only; omega), if_neg (by dsimp only; omega), if_neg (by dsimp only; omega), if_neg (by dsimp only; omega), if_neg (by dsimp only; omega), if_neg (by dsimp only; omega), if_neg (by dsimp only; omega)]; try rfl
         have hsc := textsF_succ l k (by omega)
         rw [← hnk, hnt] at hsc
         refine O_nil ⟨_, ?_, [(0, _), (3, _), (4, _)], ⟨rfl, rfl, rfl, trivial⟩, ⟨k + 1, v26, _, by omega, rfl, rfl, by rw [hsc, List.map_append, List.length_append]; exact hs.weak hs.le (Ghost.le.refl _) (List.sublist_append_left [_] _)⟩⟩
         omega
 ·
  dsimp only [cmpP] at h11
  refine O_nil (T_kp [0, 3, 4, 11] rfl ?_)
  refine T_condF rfl (T_exit ?_)
  obtain rfl : k = l.length := by omega
  have htl := textsF_len l l.length (Nat.le_refl _)
  obtain ⟨bT, cT, rfl, _⟩ := hs.rowForm 0 rfl (by omega)
  refine T_seq (T_region rfl ?_)
  refine O_m rfl ?_
  refine O_m rfl ?_
  refine O_y hs (Y_len Tryz.underlying65 rfl ?_)
  refine O_y hs (Y_sub (c := ((l.length - 1 : Nat) : Int)) rfl rfl (by omega) (by omega) ?_)
  refine O_y hs (Y_idxRow ((l.length - 1)) Tryz.underlying65 Tryz.sizeOf9 rfl rfl rfl (by omega) ?_)
  refine O_y hs (Y_ldRow 0 rfl Tryz.isAgg9 rfl (row_at (by omega)) ?_)
  refine O_a rfl ?_
  refine O_nil (T_kp [2] rfl ?_)
  refine T_ret ?_
  refine Rt_fin (vs := [_]) Tryz.results43 rfl ⟨rfl, trivial⟩ ?_
  try dsimp only [tup]
  exact ⟨_, [], hs.done, rfl, rfl⟩

set_option maxHeartbeats 400000 in
set_option maxRecDepth 10000 in
theorem rform_ok {G : Ghost} {v : Value} {l : List NodeV} (hx : Rx G v l) (hl : l.length ≤ 1000000000) :
  FnOk Tryz.prog 23 [v] G [] fun r _ H' => H' = [] ∧ r = .tuple #[strV (formatF l).1, .int .i64 (formatF l).2] := by
 obtain ⟨A, cap, rfl⟩ := LstR.slice hx
 refine FnOk.of_T [(0, _)] Tryz.func23 rfl Tryz.ntmps23 (by simp) rfl fun w0 hs => ?_
 have hx0 := hx
 refine T_seq (T_region rfl ?_)
 refine O_a rfl ?_
 refine O_a rfl ?_
 refine O_nil (T_kp [0] rfl ?_)
 refine T_seq (T_region rfl ?_)
 refine O_m rfl ?_
 refine O_s (S_call (H1 := []) hs rfl Tryz.func25 rfl (by kernel_rfl) (rvalid_ok hx hl) fun v1 G' H' _ hR hG7 hs => ?_)
 obtain ⟨rfl, rfl⟩ := hR
 replace hs : St _ _ [] _ := hs
 replace hx := hx.mono hG7
 refine O_a rfl ?_
 refine O_nil (T_kp [0, 4] rfl ?_)
 refine T_seq (T_seq (T_region rfl ?_))
 refine O_m rfl ?_
 refine O_y hs (Y_cmpS rfl rfl rfl (fun h9 => ?_) (fun h9 => ?_))
 ·
  dsimp only [cmpP] at h9
  refine O_nil (T_kp [0, 4, 9] rfl ?_)
  refine T_condT rfl (T_seq (T_region rfl ?_))
  refine O_m rfl ?_
  refine O_a rfl ?_
  refine O_a rfl ?_
  refine O_nil (T_kp [2, 3] rfl ?_)
  refine T_ret ?_
  refine Rt_fin (vs := [_, _]) Tryz.results23 rfl ⟨rfl, rfl, trivial⟩ ?_
  try dsimp only [tup]
  exact ⟨_, [], hs.done, rfl, by unfold formatF; rw [if_neg (by omega)]; try rfl⟩
 ·
  dsimp only [cmpP] at h9
  refine O_nil (T_kp [0, 4, 9] rfl ?_)
  refine T_condF rfl (T_skip ?_)
  have hv0 : validF l = 0 := by omega
  have hsz := bsz ((textsF l l.length).getD (l.length - 1) [])
  refine T_seq (T_region rfl ?_)
  refine O_m rfl ?_
  refine O_s (S_call (H1 := []) hs rfl Tryz.func43 rfl (by kernel_rfl) (rtext_ok hx hl hv0) fun v2 G' H' _ hR hG12 hs => ?_)
  obtain ⟨rfl, rfl⟩ := hR
  replace hs : St _ _ [] _ := hs
  replace hx := hx.mono hG12
  refine O_a rfl ?_
  refine O_nil (T_kp [5] rfl ?_)
  refine T_seq (T_seq (T_region rfl ?_))
  refine O_m rfl ?_
  refine O_y hs (Y_lenS Tryz.underlying9 rfl ?_)
  refine O_y hs (Y_cmpS rfl rfl rfl (fun h15 => ?_) (fun h15 => ?_))
  ·
   dsimp only [cmpP] at h15
   refine O_nil (T_kp [5, 15] rfl ?_)
   refine T_condT rfl (T_seq (T_region rfl ?_))
   refine O_a rfl ?_
   refine O_a rfl ?_
   refine O_nil (T_kp [2, 3] rfl ?_)
   refine T_ret ?_
   refine Rt_fin (vs := [_, _]) Tryz.results23 rfl ⟨rfl, rfl, trivial⟩ ?_
   try dsimp only [tup]
   exact ⟨_, [], hs.done, rfl, by unfold formatF; rw [if_pos hv0, if_pos (by omega)]; try rfl⟩
  ·
   dsimp only [cmpP] at h15
   refine O_nil (T_kp [5, 15] rfl ?_)
   refine T_condF rfl (T_skip ?_)
   refine T_seq (T_region rfl ?_)
   refine O_m rfl ?_
   refine O_a rfl ?_
   refine O_a rfl ?_
   refine O_nil (T_kp [2, 3] rfl ?_)
   refine T_ret ?_
   refine Rt_fin (vs := [_, _]) Tryz.results23 rfl ⟨rfl, rfl, trivial⟩ ?_
   try dsimp only [tup]
   exact ⟨_, [], hs.done, rfl, by unfold formatF; rw [if_pos hv0, if_neg (by omega)]; try rfl⟩

end Go.Proofs.YtkmgbcjfidpmgaaGreatDoor
