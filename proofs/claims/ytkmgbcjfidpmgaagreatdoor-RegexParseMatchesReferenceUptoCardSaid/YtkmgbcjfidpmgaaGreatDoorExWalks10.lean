import Derived.Test.YtkmgbcjfidpmgaaGreatDoorExWalks8
import Derived.Test.YtkmgbcjfidpmgaaGreatDoorErrs
import Derived.Test.YtkmgbcjfidpmgaaGreatDoorProg
import Derived.Test.YtkmgbcjfidpmgaaGreatDoorSame
import Derived.Test.YtkmgbcjfidpmgaaGreatDoorExThin
import Derived.Test.YtkmgbcjfidpmgaaGreatDoorShelf
namespace Go.Proofs.YtkmgbcjfidpmgaaGreatDoor
open Go Go.Ex Go.RowKit
theorem FO61_0 : fieldOff Tryz.prog 61 0 = some 0 := by kernel_rfl
theorem FO61_1 : fieldOff Tryz.prog 61 1 = some 1 := by kernel_rfl
theorem FO61_2 : fieldOff Tryz.prog 61 2 = some 2 := by kernel_rfl
theorem FO61_3 : fieldOff Tryz.prog 61 3 = some 3 := by kernel_rfl
theorem FO61_4 : fieldOff Tryz.prog 61 4 = some 4 := by kernel_rfl

def isR (s : List UInt8) (er : Int) (q : Nat) (b : UInt8) : Bool := decide (er = 0) && isB s q b
theorem isR_0 {s : List UInt8} {er : Int} {q : Nat} {b : UInt8} (h : ¬ er = 0) : isR s er q b = false := by unfold isR; rw [decide_eq_false h]; rfl
theorem isR_ok {s : List UInt8} {q : Nat} {b : UInt8} : isR s 0 q b = isB s q b := by unfold isR; simp
theorem isR_t {s : List UInt8} {er : Int} {q : Nat} {b : UInt8} (h : isR s er q b = true) : er = 0 ∧ isB s q b = true := by unfold isR at h; simpa using h
theorem isR_1 {s : List UInt8} {er : Int} {q : Nat} {b : UInt8} (h : s.length ≤ q) : isR s er q b = false := by
  unfold isR isB; rw [List.getElem?_eq_none h]; cases decide (er = 0) <;> rfl
theorem isR_2 {s : List UInt8} {er : Int} {q : Nat} {b : UInt8} (h0 : er = 0) (h : q < s.length) (hb : (s[q].toNat : Int) = b.toNat) : isR s er q b = true := by
  unfold isR isB; rw [decide_eq_true h0, List.getElem?_eq_getElem h, show s[q] = b from UInt8.toNat_inj.1 (by omega)]; simp
theorem isR_3 {s : List UInt8} {er : Int} {q : Nat} {b : UInt8} (h : q < s.length) (hb : ¬ (s[q].toNat : Int) = b.toNat) : isR s er q b = false := by
  unfold isR isB; rw [List.getElem?_eq_getElem h]
  have : ¬ s[q] = b := fun e => hb (by rw [e])
  cases decide (er = 0) <;> simp [this]
theorem isR_lt {s : List UInt8} {er : Int} {q : Nat} {b : UInt8} (h : isR s er q b = true) : q < s.length := isB_lt (isR_t h).2
def failE (er c : Int) : Int := if er = 0 then c else er
def failW (er wh w : Int) : Int := if er = 0 then w else wh
theorem failE_t {er c : Int} (h : er = 0) : failE er c = c := if_pos h
theorem failE_f {er c : Int} (h : ¬ er = 0) : failE er c = er := if_neg h
theorem failW_t {er wh w : Int} (h : er = 0) : failW er wh w = w := if_pos h
theorem failW_f {er wh w : Int} (h : ¬ er = 0) : failW er wh w = wh := if_neg h


set_option maxHeartbeats 1000000 in
set_option maxRecDepth 10000 in
theorem is_ok {G : Ghost} {p : Nat} {s : List UInt8} {q : Nat} {v : Value} {er wh : Int} (hq : q ≤ s.length) (hl : s.length ≤ 2000000) {b : UInt8} :
  FnOk Tryz.prog 72 [.pointer (some ⟨p, 0, none⟩), .int .u8 (b.toNat : Int)] G [.blk p 61 [.string ⟨s.toArray⟩, .int .i64 (q : Int), v, .int .i64 er, .int .i64 wh]] fun r _ H' => H' = [.blk p 61 [.string ⟨s.toArray⟩, .int .i64 (q : Int), v, .int .i64 er, .int .i64 wh]] ∧ r = .bool (isR s er q b) := by
 have hsz := bsz s
 refine FnOk.of_T [(0, _), (1, _)] Tryz.func72 rfl Tryz.ntmps72 (by simp) rfl fun w0 hs => ?_
 refine T_seq (T_region rfl ?_)
 refine O_a rfl ?_
 refine O_nil (T_kp [0, 1] rfl ?_)
 refine T_seq (T_drawS [0, 1, 2, 3, 4, 5, 6, 7, 8, 9, 10, 11, 12, 13, 14, 15, 16, 17, 18, 19, 20, 21, 22, 23, 24, 25, 26, 27, 28, 29, 30] hs (by kernel_rfl) ?_)
 replace hs := hs.drew
 refine A_take 0 rfl (by kernel_rfl) rfl hs (Y_move rfl ?_)
 refine A_take 1 rfl (by kernel_rfl) rfl hs (Y_nil rfl ?_)
 refine A_take 2 rfl (by kernel_rfl) rfl hs (Y_fieldAddr FO61_3 rfl (m := 3) rfl ?_)
 refine A_take 3 rfl (by kernel_rfl) rfl hs (Y_ld 0 Tryz.isAgg25 rfl rfl rfl ?_)
 refine A_take 4 rfl (by kernel_rfl) rfl hs (Y_cmpS rfl rfl rfl (fun h9 => ?_) (fun h9 => ?_))
 ·
  dsimp only [cmpP] at h9
  refine A_take 5 rfl (by kernel_rfl) rfl hs (Y_move rfl ?_)
  refine A_take 6 rfl (by kernel_rfl) rfl hs (Y_move rfl ?_)
  refine A_take 7 rfl (by kernel_rfl) rfl hs (Y_nil rfl ?_)
  refine A_take 8 rfl (by kernel_rfl) rfl hs (Y_fieldAddr FO61_1 rfl (m := 1) rfl ?_)
  refine A_take 9 rfl (by kernel_rfl) rfl hs (Y_ld 0 Tryz.isAgg3 rfl rfl rfl ?_)
  refine A_take 10 rfl (by kernel_rfl) rfl hs (Y_move rfl ?_)
  refine A_take 11 rfl (by kernel_rfl) rfl hs (Y_nil rfl ?_)
  refine A_take 12 rfl (by kernel_rfl) rfl hs (Y_fieldAddr FO61_0 rfl (m := 0) rfl ?_)
  refine A_take 13 rfl (by kernel_rfl) rfl hs (Y_ld 0 Tryz.isAgg9 rfl rfl rfl ?_)
  refine A_take 14 rfl (by kernel_rfl) rfl hs (Y_lenS Tryz.underlying9 rfl ?_)
  refine A_take 15 rfl (by kernel_rfl) rfl hs (Y_cmpS rfl rfl rfl (fun h20 => ?_) (fun h20 => ?_))
  ·
   dsimp only [cmpP] at h20
   refine A_take 16 rfl (by kernel_rfl) rfl hs (Y_pickT rfl rfl ?_)
   refine A_take 17 rfl (by kernel_rfl) rfl hs (Y_move rfl ?_)
   refine A_take 18 rfl (by kernel_rfl) rfl hs (Y_move rfl ?_)
   refine A_take 19 rfl (by kernel_rfl) rfl hs (Y_nil rfl ?_)
   refine A_take 20 rfl (by kernel_rfl) rfl hs (Y_fieldAddr FO61_0 rfl (m := 0) rfl ?_)
   refine A_take 21 rfl (by kernel_rfl) rfl hs (Y_ld 0 Tryz.isAgg9 rfl rfl rfl ?_)
   refine A_take 22 rfl (by kernel_rfl) rfl hs (Y_move rfl ?_)
   refine A_take 23 rfl (by kernel_rfl) rfl hs (Y_nil rfl ?_)
   refine A_take 24 rfl (by kernel_rfl) rfl hs (Y_fieldAddr FO61_1 rfl (m := 1) rfl ?_)
   refine A_take 25 rfl (by kernel_rfl) rfl hs (Y_ld 0 Tryz.isAgg3 rfl rfl rfl ?_)
   refine A_take 26 rfl (by kernel_rfl) rfl hs (Y_idxStr (b := s[q]'(by omega)) q Tryz.underlying9 rfl rfl rfl (str_at (List.getElem?_eq_getElem (by omega))) ?_)
   refine A_take 27 rfl (by kernel_rfl) rfl hs (Y_move rfl ?_)
   refine A_take 28 rfl (by kernel_rfl) rfl hs (Y_cmpS rfl rfl rfl (fun h33 => ?_) (fun h33 => ?_))
   ·
    dsimp only [cmpP] at h33
    refine A_take 29 rfl (by kernel_rfl) rfl hs (Y_pickT rfl rfl ?_)
    refine A_take 30 rfl (by kernel_rfl) rfl hs (Y_assign rfl ?_)
    refine A_done (by kernel_rfl) (T_kp [4] rfl ?_)
    refine T_ret ?_
    refine Rt_fin (vs := [_]) Tryz.results72 rfl ⟨rfl, trivial⟩ ?_
    try dsimp only [tup]
    exact ⟨_, _, hs, rfl, congrArg Value.bool (isR_2 (by omega) (by omega) h33).symm⟩
   ·
    dsimp only [cmpP] at h33
    refine A_take 29 rfl (by kernel_rfl) rfl hs (Y_pickT rfl rfl ?_)
    refine A_take 30 rfl (by kernel_rfl) rfl hs (Y_assign rfl ?_)
    refine A_done (by kernel_rfl) (T_kp [4] rfl ?_)
    refine T_ret ?_
    refine Rt_fin (vs := [_]) Tryz.results72 rfl ⟨rfl, trivial⟩ ?_
    try dsimp only [tup]
    exact ⟨_, _, hs, rfl, congrArg Value.bool (isR_3 (by omega) h33).symm⟩
  ·
   dsimp only [cmpP] at h20
   refine A_take 16 rfl (by kernel_rfl) rfl hs (Y_pickT rfl rfl ?_)
   refine A_take 17 rfl (by kernel_rfl) rfl hs (Y_move rfl ?_)
   refine A_skip 18 rfl (by kernel_rfl) rfl hs ?_
   refine A_skip 19 rfl (by kernel_rfl) rfl hs ?_
   refine A_skip 20 rfl (by kernel_rfl) rfl hs ?_
   refine A_skip 21 rfl (by kernel_rfl) rfl hs ?_
   refine A_skip 22 rfl (by kernel_rfl) rfl hs ?_
   refine A_skip 23 rfl (by kernel_rfl) rfl hs ?_
   refine A_skip 24 rfl (by kernel_rfl) rfl hs ?_
   refine A_skip 25 rfl (by kernel_rfl) rfl hs ?_
   refine A_skip 26 rfl (by kernel_rfl) rfl hs ?_
   refine A_skip 27 rfl (by kernel_rfl) rfl hs ?_
   refine A_skip 28 rfl (by kernel_rfl) rfl hs ?_
   refine A_take 29 rfl (by kernel_rfl) rfl hs (Y_pickF rfl rfl ?_)
   refine A_take 30 rfl (by kernel_rfl) rfl hs (Y_assign rfl ?_)
   refine A_done (by kernel_rfl) (T_kp [4] rfl ?_)
   refine T_ret ?_
   refine Rt_fin (vs := [_]) Tryz.results72 rfl ⟨rfl, trivial⟩ ?_
   try dsimp only [tup]
   exact ⟨_, _, hs, rfl, congrArg Value.bool (isR_1 (by omega)).symm⟩
 ·
  dsimp only [cmpP] at h9
  refine A_take 5 rfl (by kernel_rfl) rfl hs (Y_move rfl ?_)
  refine A_skip 6 rfl (by kernel_rfl) rfl hs ?_
  refine A_skip 7 rfl (by kernel_rfl) rfl hs ?_
  refine A_skip 8 rfl (by kernel_rfl) rfl hs ?_
  refine A_skip 9 rfl (by kernel_rfl) rfl hs ?_
  refine A_skip 10 rfl (by kernel_rfl) rfl hs ?_
  refine A_skip 11 rfl (by kernel_rfl) rfl hs ?_
  refine A_skip 12 rfl (by kernel_rfl) rfl hs ?_
  refine A_skip 13 rfl (by kernel_rfl) rfl hs ?_
  refine A_skip 14 rfl (by kernel_rfl) rfl hs ?_
  refine A_skip 15 rfl (by kernel_rfl) rfl hs ?_
  refine A_take 16 rfl (by kernel_rfl) rfl hs (Y_pickF rfl rfl ?_)
  refine A_take 17 rfl (by kernel_rfl) rfl hs (Y_move rfl ?_)
  refine A_skip 18 rfl (by kernel_rfl) rfl hs ?_
  refine A_skip 19 rfl (by kernel_rfl) rfl hs ?_
  refine A_skip 20 rfl (by kernel_rfl) rfl hs ?_
  refine A_skip 21 rfl (by kernel_rfl) rfl hs ?_
  refine A_skip 22 rfl (by kernel_rfl) rfl hs ?_
  refine A_skip 23 rfl (by kernel_rfl) rfl hs ?_
  refine A_skip 24 rfl (by kernel_rfl) rfl hs ?_
  refine A_skip 25 rfl (by kernel_rfl) rfl hs ?_
  refine A_skip 26 rfl (by kernel_rfl) rfl hs ?_
  refine A_skip 27 rfl (by kernel_rfl) rfl hs ?_
  refine A_skip 28 rfl (by kernel_rfl) rfl hs ?_
  refine A_take 29 rfl (by kernel_rfl) rfl hs (Y_pickF rfl rfl ?_)
  refine A_take 30 rfl (by kernel_rfl) rfl hs (Y_assign rfl ?_)
  refine A_done (by kernel_rfl) (T_kp [4] rfl ?_)
  refine T_ret ?_
  refine Rt_fin (vs := [_]) Tryz.results72 rfl ⟨rfl, trivial⟩ ?_
  try dsimp only [tup]
  exact ⟨_, _, hs, rfl, congrArg Value.bool (isR_0 (by omega)).symm⟩

set_option maxHeartbeats 400000 in
set_option maxRecDepth 10000 in
theorem take_t {G : Ghost} {p : Nat} {s : List UInt8} {q : Nat} {v : Value} {er wh : Int} (hq : q ≤ s.length) (hl : s.length ≤ 2000000) {b : UInt8} (hb : isR s er q b = true) :
  FnOk Tryz.prog 52 [.pointer (some ⟨p, 0, none⟩), .int .u8 (b.toNat : Int)] G [.blk p 61 [.string ⟨s.toArray⟩, .int .i64 (q : Int), v, .int .i64 er, .int .i64 wh]] fun r _ H' => H' = [.blk p 61 [.string ⟨s.toArray⟩, .int .i64 ((q + 1 : Nat) : Int), v, .int .i64 er, .int .i64 wh]] ∧ r = .bool true := by
 have hsz := bsz s
 have hlt := isR_lt hb
 refine FnOk.of_T [(0, _), (1, _)] Tryz.func52 rfl Tryz.ntmps52 (by simp) rfl fun w0 hs => ?_
 refine T_seq (T_region rfl ?_)
 refine O_a rfl ?_
 refine O_nil (T_kp [0, 1] rfl ?_)
 refine T_seq (T_region rfl ?_)
 refine O_m rfl ?_
 refine O_m rfl ?_
 refine O_s (S_call (H1 := [_]) hs rfl Tryz.func72 rfl (by kernel_rfl) (is_ok (q := q) (b := b) hq hl) fun v1 G' H' _ hR hG8 hs => ?_)
 obtain ⟨rfl, rfl⟩ := hR
 replace hs : St _ _ [_] _ := hs
 rw [hb]
 refine O_a rfl ?_
 refine O_nil (T_kp [0, 5] rfl ?_)
 refine T_seq (T_seq (T_region rfl ?_))
 refine O_m rfl ?_
 refine O_nil (T_kp [0, 5, 9] rfl ?_)
 refine T_condT rfl (T_region rfl ?_)
 refine O_m rfl ?_
 refine O_y hs (Y_nil rfl ?_)
 refine O_y hs (Y_fieldAddr FO61_1 rfl (m := 1) rfl ?_)
 refine O_y hs (Y_ld 0 Tryz.isAgg3 rfl rfl rfl ?_)
 refine O_y hs (Y_add (c := ((q + 1 : Nat) : Int)) rfl rfl (by omega) (by omega) ?_)
 refine O_y hs (Y_nil rfl ?_)
 refine O_y hs (Y_fieldAddr FO61_1 rfl (m := 1) rfl ?_)
 refine O_n (S_st hs Tryz.sizeOf3 rfl rfl rfl (by simp) (cs' := [_, _, _, _, _]) rfl fun _ hs => ?_)
 refine O_nil (T_kp [5] rfl ?_)
 refine T_seq (T_region rfl ?_)
 refine O_m rfl ?_
 refine O_a rfl ?_
 refine O_nil (T_kp [4] rfl ?_)
 refine T_ret ?_
 refine Rt_fin (vs := [_]) Tryz.results52 rfl ⟨rfl, trivial⟩ ?_
 try dsimp only [tup]
 exact ⟨_, _, hs, rfl, rfl⟩

set_option maxHeartbeats 400000 in
set_option maxRecDepth 10000 in
theorem take_f {G : Ghost} {p : Nat} {s : List UInt8} {q : Nat} {v : Value} {er wh : Int} (hq : q ≤ s.length) (hl : s.length ≤ 2000000) {b : UInt8} (hb : isR s er q b = false) :
  FnOk Tryz.prog 52 [.pointer (some ⟨p, 0, none⟩), .int .u8 (b.toNat : Int)] G [.blk p 61 [.string ⟨s.toArray⟩, .int .i64 (q : Int), v, .int .i64 er, .int .i64 wh]] fun r _ H' => H' = [.blk p 61 [.string ⟨s.toArray⟩, .int .i64 (q : Int), v, .int .i64 er, .int .i64 wh]] ∧ r = .bool false := by
 have hsz := bsz s
 refine FnOk.of_T [(0, _), (1, _)] Tryz.func52 rfl Tryz.ntmps52 (by simp) rfl fun w0 hs => ?_
 refine T_seq (T_region rfl ?_)
 refine O_a rfl ?_
 refine O_nil (T_kp [0, 1] rfl ?_)
 refine T_seq (T_region rfl ?_)
 refine O_m rfl ?_
 refine O_m rfl ?_
 refine O_s (S_call (H1 := [_]) hs rfl Tryz.func72 rfl (by kernel_rfl) (is_ok (q := q) (b := b) hq hl) fun v1 G' H' _ hR hG8 hs => ?_)
 obtain ⟨rfl, rfl⟩ := hR
 replace hs : St _ _ [_] _ := hs
 rw [hb]
 refine O_a rfl ?_
 refine O_nil (T_kp [0, 5] rfl ?_)
 refine T_seq (T_seq (T_region rfl ?_))
 refine O_m rfl ?_
 refine O_nil (T_kp [0, 5, 9] rfl ?_)
 refine T_condF rfl (T_skip ?_)
 refine T_seq (T_region rfl ?_)
 refine O_m rfl ?_
 refine O_a rfl ?_
 refine O_nil (T_kp [4] rfl ?_)
 refine T_ret ?_
 refine Rt_fin (vs := [_]) Tryz.results52 rfl ⟨rfl, trivial⟩ ?_
 try dsimp only [tup]
 exact ⟨_, _, hs, rfl, rfl⟩

set_option maxHeartbeats 400000 in
set_option maxRecDepth 10000 in
theorem fail_ok {G : Ghost} {p : Nat} {s : List UInt8} {q : Nat} {v : Value} {er wh : Int} (hq : q ≤ s.length) (hl : s.length ≤ 2000000) {c w : Int} :
  FnOk Tryz.prog 36 [.pointer (some ⟨p, 0, none⟩), .int .i64 c, .int .i64 w] G [.blk p 61 [.string ⟨s.toArray⟩, .int .i64 (q : Int), v, .int .i64 er, .int .i64 wh]] fun r _ H' => H' = [.blk p 61 [.string ⟨s.toArray⟩, .int .i64 (q : Int), v, .int .i64 (failE er c), .int .i64 (failW er wh w)]] := by
 refine FnOk.of_T [(0, _), (1, _), (2, _)] Tryz.func36 rfl Tryz.ntmps36 (by simp) rfl fun w0 hs => ?_
 refine T_seq (T_region rfl ?_)
 refine O_m rfl ?_
 refine O_y hs (Y_nil rfl ?_)
 refine O_y hs (Y_fieldAddr FO61_3 rfl (m := 3) rfl ?_)
 refine O_y hs (Y_ld 0 Tryz.isAgg25 rfl rfl rfl ?_)
 refine O_y hs (Y_cmpS rfl rfl rfl (fun h10 => ?_) (fun h10 => ?_))
 ·
  dsimp only [cmpP] at h10
  refine O_nil (T_kp [0, 1, 2, 10] rfl ?_)
  refine T_condT rfl (T_seq (T_region rfl ?_))
  refine O_m rfl ?_
  refine O_m rfl ?_
  refine O_y hs (Y_nil rfl ?_)
  refine O_y hs (Y_fieldAddr FO61_3 rfl (m := 3) rfl ?_)
  refine O_n (S_st hs Tryz.sizeOf25 rfl rfl rfl (by simp) (cs' := [_, _, _, _, _]) rfl fun _ hs => ?_)
  refine O_nil (T_kp [0, 2] rfl ?_)
  refine T_region rfl ?_
  refine O_m rfl ?_
  refine O_m rfl ?_
  refine O_y hs (Y_nil rfl ?_)
  refine O_y hs (Y_fieldAddr FO61_4 rfl (m := 4) rfl ?_)
  refine O_n (S_st hs Tryz.sizeOf3 rfl rfl rfl (by simp) (cs' := [_, _, _, _, _]) rfl fun _ hs => ?_)
  refine O_nil (Rt_finN (vs := []) Tryz.results36 rfl trivial ?_)
  try dsimp only [tup]
  exact ⟨_, _, hs, by rw [failE_t (by omega), failW_t (by omega)]⟩
 ·
  dsimp only [cmpP] at h10
  refine O_nil (T_kp [0, 1, 2, 10] rfl ?_)
  refine T_condF rfl (T_skip ?_)
  try dsimp only [Ex.sq, Ex.lp, Ex.bk]
  try rw [show Nat.beq _ _ = true from Nat.beq_refl _, cond_true]
  refine Rt_finN (vs := []) Tryz.results36 rfl trivial ?_
  try dsimp only [tup]
  exact ⟨_, _, hs, by rw [failE_f (by omega), failW_f (by omega)]⟩

set_option maxHeartbeats 400000 in
set_option maxRecDepth 10000 in
theorem wrong_ok {G : Ghost} {p : Nat} {s : List UInt8} {q : Nat} {v : Value} {er wh : Int} (hq : q ≤ s.length) (hl : s.length ≤ 2000000) :
  FnOk Tryz.prog 128 [.pointer (some ⟨p, 0, none⟩)] G [.blk p 61 [.string ⟨s.toArray⟩, .int .i64 (q : Int), v, .int .i64 er, .int .i64 wh]] fun r _ H' => H' = [.blk p 61 [.string ⟨s.toArray⟩, .int .i64 (q : Int), v, .int .i64 (failE er (unexp s q).1), .int .i64 (failW er wh ((unexp s q).2 : Int))]] := by
 have hsz := bsz s
 refine FnOk.of_T [(0, _)] Tryz.func128 rfl Tryz.ntmps128 (by simp) rfl fun w0 hs => ?_
 refine T_seq (T_seq (T_drawS [0, 1, 2, 3, 4, 5, 6, 7, 8, 9] hs (by kernel_rfl) ?_))
 replace hs := hs.drew
 refine A_take 0 rfl (by kernel_rfl) rfl hs (Y_move rfl ?_)
 refine A_take 1 rfl (by kernel_rfl) rfl hs (Y_nil rfl ?_)
 refine A_take 2 rfl (by kernel_rfl) rfl hs (Y_fieldAddr FO61_1 rfl (m := 1) rfl ?_)
 refine A_take 3 rfl (by kernel_rfl) rfl hs (Y_ld 0 Tryz.isAgg3 rfl rfl rfl ?_)
 refine A_take 4 rfl (by kernel_rfl) rfl hs (Y_move rfl ?_)
 refine A_take 5 rfl (by kernel_rfl) rfl hs (Y_nil rfl ?_)
 refine A_take 6 rfl (by kernel_rfl) rfl hs (Y_fieldAddr FO61_0 rfl (m := 0) rfl ?_)
 refine A_take 7 rfl (by kernel_rfl) rfl hs (Y_ld 0 Tryz.isAgg9 rfl rfl rfl ?_)
 refine A_take 8 rfl (by kernel_rfl) rfl hs (Y_lenS Tryz.underlying9 rfl ?_)
 refine A_take 9 rfl (by kernel_rfl) rfl hs (Y_cmpS rfl rfl rfl (fun h11 => ?_) (fun h11 => ?_))
 ·
  dsimp only [cmpP] at h11
  refine A_done (by kernel_rfl) (T_kp [0, 11] rfl ?_)
  refine T_condT rfl (T_seq (T_region rfl ?_))
  refine O_m rfl ?_
  refine O_m rfl ?_
  refine O_y hs (Y_nil rfl ?_)
  refine O_y hs (Y_fieldAddr FO61_0 rfl (m := 0) rfl ?_)
  refine O_y hs (Y_ld 0 Tryz.isAgg9 rfl rfl rfl ?_)
  refine O_y hs (Y_lenS Tryz.underlying9 rfl ?_)
  refine O_s (S_call (H1 := [_]) hs rfl Tryz.func36 rfl (by kernel_rfl) (fail_ok (q := q) (er := er) (wh := wh) (c := 21) (w := (s.length : Int)) (by omega) hl) fun v1 G' H' _ hR hG18 hs => ?_)
  obtain rfl := hR
  replace hs : St _ _ [_] _ := hs
  refine O_nil (T_kp [] rfl ?_)
  refine T_ret ?_
  refine Rt_fin (vs := []) Tryz.results128 rfl trivial ?_
  try dsimp only [tup]
  exact ⟨_, _, hs, by rw [unexp_end (by omega)]; show _ = [Res.blk _ _ [_, _, _, _, .int .i64 (failW er wh (q : Int))]]; rw [show (q : Int) = (s.length : Int) by omega]⟩
 ·
  dsimp only [cmpP] at h11
  refine A_done (by kernel_rfl) (T_kp [0, 11] rfl ?_)
  refine T_condF rfl (T_skip ?_)
  refine T_region rfl ?_
  refine O_m rfl ?_
  refine O_m rfl ?_
  refine O_y hs (Y_nil rfl ?_)
  refine O_y hs (Y_fieldAddr FO61_1 rfl (m := 1) rfl ?_)
  refine O_y hs (Y_ld 0 Tryz.isAgg3 rfl rfl rfl ?_)
  refine O_s (S_call (H1 := [_]) hs rfl Tryz.func36 rfl (by kernel_rfl) (fail_ok (q := q) (er := er) (wh := wh) (c := 20) (w := (q : Int)) (by omega) hl) fun v2 G' H' _ hR hG24 hs => ?_)
  obtain rfl := hR
  replace hs : St _ _ [_] _ := hs
  refine O_nil (Rt_finN (vs := []) Tryz.results128 rfl trivial ?_)
  try dsimp only [tup]
  exact ⟨_, _, hs, by rw [unexp_mid (by omega)]⟩

set_option maxHeartbeats 400000 in
set_option maxRecDepth 10000 in
theorem need_t {G : Ghost} {p : Nat} {s : List UInt8} {q : Nat} {v : Value} {er wh : Int} (hq : q ≤ s.length) (hl : s.length ≤ 2000000) {b : UInt8} (hb : isR s er q b = true) :
  FnOk Tryz.prog 113 [.pointer (some ⟨p, 0, none⟩), .int .u8 (b.toNat : Int)] G [.blk p 61 [.string ⟨s.toArray⟩, .int .i64 (q : Int), v, .int .i64 er, .int .i64 wh]] fun r _ H' => H' = [.blk p 61 [.string ⟨s.toArray⟩, .int .i64 ((q + 1 : Nat) : Int), v, .int .i64 er, .int .i64 wh]] := by
 have hsz := bsz s
 have hlt := isR_lt hb
 refine FnOk.of_T [(0, _), (1, _)] Tryz.func113 rfl Tryz.ntmps113 (by simp) rfl fun w0 hs => ?_
 refine T_seq (T_region rfl ?_)
 refine O_m rfl ?_
 refine O_m rfl ?_
 refine O_s (S_call (H1 := [_]) hs rfl Tryz.func52 rfl (by kernel_rfl) (take_t (q := q) (b := b) hq hl hb) fun v1 G' H' _ hR hG7 hs => ?_)
 obtain ⟨rfl, rfl⟩ := hR
 replace hs : St _ _ [_] _ := hs
 refine O_a rfl ?_
 refine O_nil (T_kp [0, 4] rfl ?_)
 refine T_seq (T_region rfl ?_)
 refine O_m rfl ?_
 refine O_y hs (Y_not rfl ?_)
 refine O_nil (T_kp [0, 9] rfl ?_)
 refine T_condF rfl (T_skip ?_)
 try dsimp only [Ex.sq, Ex.lp, Ex.bk]
 try rw [show Nat.beq _ _ = true from Nat.beq_refl _, cond_true]
 refine Rt_finN (vs := []) Tryz.results113 rfl trivial ?_
 try dsimp only [tup]
 exact ⟨_, _, hs, rfl⟩

set_option maxHeartbeats 400000 in
set_option maxRecDepth 10000 in
theorem need_f {G : Ghost} {p : Nat} {s : List UInt8} {q : Nat} {v : Value} {er wh : Int} (hq : q ≤ s.length) (hl : s.length ≤ 2000000) {b : UInt8} (hb : isR s er q b = false) :
  FnOk Tryz.prog 113 [.pointer (some ⟨p, 0, none⟩), .int .u8 (b.toNat : Int)] G [.blk p 61 [.string ⟨s.toArray⟩, .int .i64 (q : Int), v, .int .i64 er, .int .i64 wh]] fun r _ H' => H' = [.blk p 61 [.string ⟨s.toArray⟩, .int .i64 (q : Int), v, .int .i64 (failE er (unexp s q).1), .int .i64 (failW er wh ((unexp s q).2 : Int))]] := by
 have hsz := bsz s
 refine FnOk.of_T [(0, _), (1, _)] Tryz.func113 rfl Tryz.ntmps113 (by simp) rfl fun w0 hs => ?_
 refine T_seq (T_region rfl ?_)
 refine O_m rfl ?_
 refine O_m rfl ?_
 refine O_s (S_call (H1 := [_]) hs rfl Tryz.func52 rfl (by kernel_rfl) (take_f (q := q) (b := b) hq hl hb) fun v1 G' H' _ hR hG7 hs => ?_)
 obtain ⟨rfl, rfl⟩ := hR
 replace hs : St _ _ [_] _ := hs
 refine O_a rfl ?_
 refine O_nil (T_kp [0, 4] rfl ?_)
 refine T_seq (T_region rfl ?_)
 refine O_m rfl ?_
 refine O_y hs (Y_not rfl ?_)
 refine O_nil (T_kp [0, 9] rfl ?_)
 refine T_condT rfl (T_region rfl ?_)
 refine O_m rfl ?_
 refine O_s (S_call (H1 := [_]) hs rfl Tryz.func128 rfl (by kernel_rfl) (wrong_ok (q := q) (er := er) (wh := wh) (by omega) hl) fun v2 G' H' _ hR hG11 hs => ?_)
 obtain rfl := hR
 replace hs : St _ _ [_] _ := hs
 refine O_nil (Rt_finN (vs := []) Tryz.results113 rfl trivial ?_)
 try dsimp only [tup]
 exact ⟨_, _, hs, rfl⟩

set_option maxHeartbeats 400000 in
set_option maxRecDepth 10000 in
theorem rnode_ok {G : Ghost} {p q : Nat} {s : List UInt8} {v : Value} {er wh : Int} {ns : List NodeV} {n : NodeV} (hc : n.c.length = 4) (hn : ns.length ≤ 100000000) :
  FnOk Tryz.prog 53 [.pointer (some ⟨p, 0, none⟩), .agg (nodeC n).toArray] G [.blk p 61 [.string ⟨s.toArray⟩, .int .i64 (q : Int), v, .int .i64 er, .int .i64 wh], .row 42 9 v ns.length (ns.flatMap nodeC)] fun r _ H' => ∃ v1, H' = [.blk p 61 [.string ⟨s.toArray⟩, .int .i64 (q : Int), v1, .int .i64 er, .int .i64 wh], .row 42 9 v1 (ns ++ [n]).length ((ns ++ [n]).flatMap nodeC)] ∧ r = .int .i64 ((ns.length : Nat) : Int) := by
 obtain ⟨k, c, l, r, mn, mx⟩ := n
 obtain ⟨c0, c1, c2, c3, rfl⟩ := four_of hc
 refine FnOk.of_T [(0, _), (1, _)] Tryz.func53 rfl Tryz.ntmps53 (by simp) rfl fun w0 hs => ?_
 refine T_seq (T_region rfl ?_)
 refine O_s (S_box hs rfl (cs := [_, _, _, _, _, _, _, _, _]) rfl fun b3 _ hs => ?_)
 refine O_a rfl ?_
 refine O_nil (T_kp [0, 3] rfl ?_)
 refine T_seq (T_drawS [1, 2, 3, 4, 5, 6] hs (by kernel_rfl) ?_)
 replace hs := hs.drew
 refine A_pure 0 rfl (by kernel_rfl) rfl (Y_move rfl ?_)
 refine A_take 1 rfl (by kernel_rfl) rfl hs (Y_move rfl ?_)
 refine A_take 2 rfl (by kernel_rfl) rfl hs (Y_nil rfl ?_)
 refine A_take 3 rfl (by kernel_rfl) rfl hs (Y_fieldAddr FO61_2 rfl (m := 2) rfl ?_)
 refine A_take 4 rfl (by kernel_rfl) rfl hs (Y_ld 1 Tryz.isAgg24 rfl rfl rfl ?_)
 refine A_take 5 rfl (by kernel_rfl) rfl hs (Y_ldA 0 Tryz.isAgg42 Tryz.sizeOf42 rfl rfl (vs := [_, _, _, _, _, _, _, _, _]) rfl rfl ?_)
 have hle := hs.le
 refine A_only 6 rfl (by kernel_rfl) rfl (S_lit hs Tryz.underlying24 Tryz.sizeOf42 Tryz.zeroValue42 rfl rfl (by decide) (by decide) rfl (cs := [_, _, _, _, _, _, _, _, _]) rfl rfl fun v1 _ hs _ => ?_)
 obtain ⟨_, hG11, hl11, hs⟩ := hs.fixRow (noM2 1 2 hs rfl rfl)
 refine A_moreS hs hle hG11 (List.Sublist.refl _) ?_
 have hs := hs.f2
 refine A_tail 7 rfl (by kernel_rfl) (by kernel_rfl) rfl (S_append hs Tryz.underlying24 TI42 rfl (by decide) rfl rfl (hl11) (nine1 rfl rfl rfl rfl rfl rfl rfl rfl rfl) (by omega) (by omega) fun v2 _ hs => ?_)
 refine A_tail 8 rfl (by kernel_rfl) (by kernel_rfl) rfl (S_y hs rfl (Y_nil rfl ?_))
 refine A_tail 9 rfl (by kernel_rfl) (by kernel_rfl) rfl (S_y hs rfl (Y_fieldAddr FO61_2 rfl (m := 2) rfl ?_))
 have hs := hs.f2
 refine A_tailN 10 rfl (by kernel_rfl) (by kernel_rfl) rfl (S_st hs Tryz.sizeOf24 rfl rfl (hs.rowOne 1 rfl) (by simp) (cs' := [_, _, _, _, _]) rfl fun _ hs => ?_)
 refine A_done (by kernel_rfl) (T_kp [0] rfl ?_)
 refine T_seq (T_region rfl ?_)
 refine O_m rfl ?_
 refine O_y hs (Y_nil rfl ?_)
 refine O_y hs (Y_fieldAddr FO61_2 rfl (m := 2) rfl ?_)
 refine O_y hs (Y_ld 0 Tryz.isAgg24 rfl rfl rfl ?_)
 refine O_y hs (Y_lenOwn 1 rfl Tryz.underlying24 rfl hs ?_)
 refine O_y hs (Y_sub (c := ((ns.length : Nat) : Int)) rfl rfl (by omega) (by omega) ?_)
 refine O_a rfl ?_
 refine O_nil (T_kp [4] rfl ?_)
 refine T_ret ?_
 have hs := hs.f1
 have hs := hs.f1
 refine Rt_fin (vs := [_]) Tryz.results53 rfl ⟨rfl, trivial⟩ ?_
 try dsimp only [tup]
 exact ⟨_, _, hs.weak hs.le (Ghost.le.refl _) (List.sublist_append_left [_, _] _), v2, by rw [flat_emit, List.length_append]; rfl, rfl⟩

def hexI (x : UInt8) : Int := if 48 ≤ x.toNat ∧ x.toNat ≤ 57 then (x.toNat : Int) - 48 else if 97 ≤ x.toNat ∧ x.toNat ≤ 102 then (x.toNat : Int) - 87 else if 65 ≤ x.toNat ∧ x.toNat ≤ 70 then (x.toNat : Int) - 55 else -1
theorem hexI_some {s : List UInt8} {q : Nat} (h : q < s.length) (h0 : 0 ≤ hexI s[q]) : ∃ y : UInt8, hexP s q = .ok (y, q + 1) ∧ hexI s[q] = (y.toNat : Int) ∧ y.toNat < 16 := by
  have hn := hex_num s[q]
  unfold hexP; rw [List.getElem?_eq_getElem h]; dsimp only
  unfold hexI at h0 ⊢
  rw [hn]
  by_cases h1 : 48 ≤ s[q].toNat ∧ s[q].toNat ≤ 57
  · rw [if_pos h1] at h0 ⊢; rw [if_pos h1]
    exact ⟨_, rfl, by rw [UInt8.toNat_ofNat']; omega, by rw [UInt8.toNat_ofNat']; omega⟩
  rw [if_neg h1] at h0 ⊢; rw [if_neg h1]
  by_cases h2 : 97 ≤ s[q].toNat ∧ s[q].toNat ≤ 102
  · rw [if_pos h2] at h0 ⊢; rw [if_pos h2]
    exact ⟨_, rfl, by rw [UInt8.toNat_ofNat']; omega, by rw [UInt8.toNat_ofNat']; omega⟩
  rw [if_neg h2] at h0 ⊢; rw [if_neg h2]
  by_cases h3 : 65 ≤ s[q].toNat ∧ s[q].toNat ≤ 70
  · rw [if_pos h3] at h0 ⊢; rw [if_pos h3]
    exact ⟨_, rfl, by rw [UInt8.toNat_ofNat']; omega, by rw [UInt8.toNat_ofNat']; omega⟩
  · rw [if_neg h3] at h0; omega
theorem hexI_none {s : List UInt8} {q : Nat} (h : q < s.length) (h0 : hexI s[q] < 0) : hexP s q = .error (unexp s q) := by
  have hn := hex_num s[q]
  unfold hexP; rw [List.getElem?_eq_getElem h]; dsimp only
  unfold hexI at h0
  rw [hn]
  by_cases h1 : 48 ≤ s[q].toNat ∧ s[q].toNat ≤ 57
  · rw [if_pos h1] at h0; omega
  rw [if_neg h1] at h0; rw [if_neg h1]
  by_cases h2 : 97 ≤ s[q].toNat ∧ s[q].toNat ≤ 102
  · rw [if_pos h2] at h0; omega
  rw [if_neg h2] at h0; rw [if_neg h2]
  by_cases h3 : 65 ≤ s[q].toNat ∧ s[q].toNat ≤ 70
  · rw [if_pos h3] at h0; omega
  · rw [if_neg h3]
theorem hexP_end {s : List UInt8} {q : Nat} (h : s.length ≤ q) : hexP s q = .error (unexp s q) := by unfold hexP; rw [List.getElem?_eq_none h]


set_option maxHeartbeats 400000 in
set_option maxRecDepth 10000 in
theorem rhex_ok {G : Ghost} {x : UInt8} :
  FnOk Tryz.prog 129 [.int .u8 (x.toNat : Int)] G [] fun r _ H' => H' = [] ∧ r = .int .i64 (hexI x) := by
 have hx := x.toNat_lt
 refine FnOk.of_T [(0, _)] Tryz.func129 rfl Tryz.ntmps129 (by simp) rfl fun w0 hs => ?_
 refine T_seq (T_region rfl ?_)
 refine O_a rfl ?_
 refine O_nil (T_kp [0] rfl ?_)
 refine T_seq (T_seq (T_region rfl ?_))
 refine O_m rfl ?_
 refine O_y hs (Y_cmpS rfl rfl rfl (fun h4 => ?_) (fun h4 => ?_))
 ·
  dsimp only [cmpP] at h4
  refine O_m rfl ?_
  refine O_yy 5 hs rfl rfl (Y_move rfl ?_)
  refine O_yy 5 hs rfl rfl (Y_cmpS rfl rfl rfl (fun h7 => ?_) (fun h7 => ?_))
  ·
   dsimp only [cmpP] at h7
   refine O_y hs (Y_pickT rfl rfl ?_)
   refine O_nil (T_kp [0, 8] rfl ?_)
   refine T_condT rfl (T_seq (T_region rfl ?_))
   refine O_m rfl ?_
   refine O_y hs (Y_subW rfl rfl ?_)
   refine O_y hs (Y_conv Tryz.underlying5 Tryz.underlying3 (c := ((x.toNat : Int) - 48)) rfl (by rw [IntKind.wrap_u8, IntKind.wrap_i64]; omega) ?_)
   refine O_a rfl ?_
   refine O_nil (T_kp [2] rfl ?_)
   refine T_ret ?_
   refine Rt_fin (vs := [_]) Tryz.results129 rfl ⟨rfl, trivial⟩ ?_
   try dsimp only [tup]
   exact ⟨_, [], hs.done, rfl, by unfold hexI; rw [if_pos (by omega)]⟩
  ·
   dsimp only [cmpP] at h7
   refine O_y hs (Y_pickT rfl rfl ?_)
   refine O_nil (T_kp [0, 8] rfl ?_)
   refine T_condF rfl (T_skip ?_)
   refine T_seq (T_seq (T_region rfl ?_))
   refine O_m rfl ?_
   refine O_y hs (Y_cmpS rfl rfl rfl (fun h13 => ?_) (fun h13 => ?_))
   ·
    dsimp only [cmpP] at h13
    refine O_m rfl ?_
    refine O_yy 14 hs rfl rfl (Y_move rfl ?_)
    refine O_yy 14 hs rfl rfl (Y_cmpS rfl rfl rfl (fun h16 => ?_) (fun h16 => ?_))
    ·
     dsimp only [cmpP] at h16
     refine O_y hs (Y_pickT rfl rfl ?_)
     refine O_nil (T_kp [0, 17] rfl ?_)
     refine T_condT rfl (T_seq (T_region rfl ?_))
     refine O_m rfl ?_
     refine O_y hs (Y_subW rfl rfl ?_)
     refine O_y hs (Y_conv Tryz.underlying5 Tryz.underlying3 (c := ((x.toNat : Int) - 97)) rfl (by rw [IntKind.wrap_u8, IntKind.wrap_i64]; omega) ?_)
     refine O_y hs (Y_add (c := ((x.toNat : Int) - 87)) rfl rfl (by omega) (by omega) ?_)
     refine O_a rfl ?_
     refine O_nil (T_kp [2] rfl ?_)
     refine T_ret ?_
     refine Rt_fin (vs := [_]) Tryz.results129 rfl ⟨rfl, trivial⟩ ?_
     try dsimp only [tup]
     exact ⟨_, [], hs.done, rfl, by unfold hexI; rw [if_neg (by omega), if_pos (by omega)]⟩
    ·
     dsimp only [cmpP] at h16
     refine O_y hs (Y_pickT rfl rfl ?_)
     refine O_nil (T_kp [0, 17] rfl ?_)
     refine T_condF rfl (T_skip ?_)
     refine T_seq (T_seq (T_region rfl ?_))
     refine O_m rfl ?_
     refine O_y hs (Y_cmpS rfl rfl rfl (fun h23 => ?_) (fun h23 => ?_))
     ·
      dsimp only [cmpP] at h23
      refine O_m rfl ?_
      refine O_yy 24 hs rfl rfl (Y_move rfl ?_)
      refine O_yy 24 hs rfl rfl (Y_cmpS rfl rfl rfl (fun h26 => ?_) (fun h26 => ?_))
      ·
       dsimp only [cmpP] at h26
       refine O_y hs (Y_pickT rfl rfl ?_)
       refine O_nil (T_kp [0, 27] rfl ?_)
       refine T_condT rfl (T_seq (T_region rfl ?_))
       refine O_m rfl ?_
       refine O_y hs (Y_subW rfl rfl ?_)
       refine O_y hs (Y_conv Tryz.underlying5 Tryz.underlying3 (c := ((x.toNat : Int) - 65)) rfl (by rw [IntKind.wrap_u8, IntKind.wrap_i64]; omega) ?_)
       refine O_y hs (Y_add (c := ((x.toNat : Int) - 55)) rfl rfl (by omega) (by omega) ?_)
       refine O_a rfl ?_
       refine O_nil (T_kp [2] rfl ?_)
       refine T_ret ?_
       refine Rt_fin (vs := [_]) Tryz.results129 rfl ⟨rfl, trivial⟩ ?_
       try dsimp only [tup]
       exact ⟨_, [], hs.done, rfl, by unfold hexI; rw [if_neg (by omega), if_neg (by omega), if_pos (by omega)]⟩
      ·
       dsimp only [cmpP] at h26
       refine O_y hs (Y_pickT rfl rfl ?_)
       refine O_nil (T_kp [0, 27] rfl ?_)
       refine T_condF rfl (T_skip ?_)
       refine T_seq (T_region rfl ?_)
       refine O_a rfl ?_
       refine O_nil (T_kp [2] rfl ?_)
       refine T_ret ?_
       refine Rt_fin (vs := [_]) Tryz.results129 rfl ⟨rfl, trivial⟩ ?_
       try dsimp only [tup]
       exact ⟨_, [], hs.done, rfl, by unfold hexI; rw [if_neg (by omega), if_neg (by omega), if_neg (by omega)]⟩
     ·
      dsimp only [cmpP] at h23
      refine O_m rfl ?_
      refine O_no 24 rfl rfl ?_
      refine O_no 24 rfl rfl ?_
      refine O_y hs (Y_pickF rfl rfl ?_)
      refine O_nil (T_kp [0, 27] rfl ?_)
      refine T_condF rfl (T_skip ?_)
      refine T_seq (T_region rfl ?_)
      refine O_a rfl ?_
      refine O_nil (T_kp [2] rfl ?_)
      refine T_ret ?_
      refine Rt_fin (vs := [_]) Tryz.results129 rfl ⟨rfl, trivial⟩ ?_
      try dsimp only [tup]
      exact ⟨_, [], hs.done, rfl, by unfold hexI; rw [if_neg (by omega), if_neg (by omega), if_neg (by omega)]⟩
   ·
    dsimp only [cmpP] at h13
    refine O_m rfl ?_
    refine O_no 14 rfl rfl ?_
    refine O_no 14 rfl rfl ?_
    refine O_y hs (Y_pickF rfl rfl ?_)
    refine O_nil (T_kp [0, 17] rfl ?_)
    refine T_condF rfl (T_skip ?_)
    refine T_seq (T_seq (T_region rfl ?_))
    refine O_m rfl ?_
    refine O_y hs (Y_cmpS rfl rfl rfl (fun h23 => ?_) (fun h23 => ?_))
    ·
     dsimp only [cmpP] at h23
     refine O_m rfl ?_
     refine O_yy 24 hs rfl rfl (Y_move rfl ?_)
     refine O_yy 24 hs rfl rfl (Y_cmpS rfl rfl rfl (fun h26 => ?_) (fun h26 => ?_))
     ·
      dsimp only [cmpP] at h26
      refine O_y hs (Y_pickT rfl rfl ?_)
      refine O_nil (T_kp [0, 27] rfl ?_)
      refine T_condT rfl (T_seq (T_region rfl ?_))
      refine O_m rfl ?_
      refine O_y hs (Y_subW rfl rfl ?_)
      refine O_y hs (Y_conv Tryz.underlying5 Tryz.underlying3 (c := ((x.toNat : Int) - 65)) rfl (by rw [IntKind.wrap_u8, IntKind.wrap_i64]; omega) ?_)
      refine O_y hs (Y_add (c := ((x.toNat : Int) - 55)) rfl rfl (by omega) (by omega) ?_)
      refine O_a rfl ?_
      refine O_nil (T_kp [2] rfl ?_)
      refine T_ret ?_
      refine Rt_fin (vs := [_]) Tryz.results129 rfl ⟨rfl, trivial⟩ ?_
      try dsimp only [tup]
      exact ⟨_, [], hs.done, rfl, by unfold hexI; rw [if_neg (by omega), if_neg (by omega), if_pos (by omega)]⟩
     ·
      dsimp only [cmpP] at h26
      refine O_y hs (Y_pickT rfl rfl ?_)
      refine O_nil (T_kp [0, 27] rfl ?_)
      refine T_condF rfl (T_skip ?_)
      refine T_seq (T_region rfl ?_)
      refine O_a rfl ?_
      refine O_nil (T_kp [2] rfl ?_)
      refine T_ret ?_
      refine Rt_fin (vs := [_]) Tryz.results129 rfl ⟨rfl, trivial⟩ ?_
      try dsimp only [tup]
      exact ⟨_, [], hs.done, rfl, by unfold hexI; rw [if_neg (by omega), if_neg (by omega), if_neg (by omega)]⟩
    ·
     dsimp only [cmpP] at h23
     refine O_m rfl ?_
     refine O_no 24 rfl rfl ?_
     refine O_no 24 rfl rfl ?_
     refine O_y hs (Y_pickF rfl rfl ?_)
     refine O_nil (T_kp [0, 27] rfl ?_)
     refine T_condF rfl (T_skip ?_)
     refine T_seq (T_region rfl ?_)
     refine O_a rfl ?_
     refine O_nil (T_kp [2] rfl ?_)
     refine T_ret ?_
     refine Rt_fin (vs := [_]) Tryz.results129 rfl ⟨rfl, trivial⟩ ?_
     try dsimp only [tup]
     exact ⟨_, [], hs.done, rfl, by unfold hexI; rw [if_neg (by omega), if_neg (by omega), if_neg (by omega)]⟩
 ·
  dsimp only [cmpP] at h4
  refine O_m rfl ?_
  refine O_no 5 rfl rfl ?_
  refine O_no 5 rfl rfl ?_
  refine O_y hs (Y_pickF rfl rfl ?_)
  refine O_nil (T_kp [0, 8] rfl ?_)
  refine T_condF rfl (T_skip ?_)
  refine T_seq (T_seq (T_region rfl ?_))
  refine O_m rfl ?_
  refine O_y hs (Y_cmpS rfl rfl rfl (fun h13 => ?_) (fun h13 => ?_))
  ·
   dsimp only [cmpP] at h13
   refine O_m rfl ?_
   refine O_yy 14 hs rfl rfl (Y_move rfl ?_)
   refine O_yy 14 hs rfl rfl (Y_cmpS rfl rfl rfl (fun h16 => ?_) (fun h16 => ?_))
   ·
    dsimp only [cmpP] at h16
    refine O_y hs (Y_pickT rfl rfl ?_)
    refine O_nil (T_kp [0, 17] rfl ?_)
    refine T_condT rfl (T_seq (T_region rfl ?_))
    refine O_m rfl ?_
    refine O_y hs (Y_subW rfl rfl ?_)
    refine O_y hs (Y_conv Tryz.underlying5 Tryz.underlying3 (c := ((x.toNat : Int) - 97)) rfl (by rw [IntKind.wrap_u8, IntKind.wrap_i64]; omega) ?_)
    refine O_y hs (Y_add (c := ((x.toNat : Int) - 87)) rfl rfl (by omega) (by omega) ?_)
    refine O_a rfl ?_
    refine O_nil (T_kp [2] rfl ?_)
    refine T_ret ?_
    refine Rt_fin (vs := [_]) Tryz.results129 rfl ⟨rfl, trivial⟩ ?_
    try dsimp only [tup]
    exact ⟨_, [], hs.done, rfl, by unfold hexI; rw [if_neg (by omega), if_pos (by omega)]⟩
   ·
    dsimp only [cmpP] at h16
    refine O_y hs (Y_pickT rfl rfl ?_)
    refine O_nil (T_kp [0, 17] rfl ?_)
    refine T_condF rfl (T_skip ?_)
    refine T_seq (T_seq (T_region rfl ?_))
    refine O_m rfl ?_
    refine O_y hs (Y_cmpS rfl rfl rfl (fun h23 => ?_) (fun h23 => ?_))
    ·
     dsimp only [cmpP] at h23
     refine O_m rfl ?_
     refine O_yy 24 hs rfl rfl (Y_move rfl ?_)
     refine O_yy 24 hs rfl rfl (Y_cmpS rfl rfl rfl (fun h26 => ?_) (fun h26 => ?_))
     ·
      dsimp only [cmpP] at h26
      refine O_y hs (Y_pickT rfl rfl ?_)
      refine O_nil (T_kp [0, 27] rfl ?_)
      refine T_condT rfl (T_seq (T_region rfl ?_))
      refine O_m rfl ?_
      refine O_y hs (Y_subW rfl rfl ?_)
      refine O_y hs (Y_conv Tryz.underlying5 Tryz.underlying3 (c := ((x.toNat : Int) - 65)) rfl (by rw [IntKind.wrap_u8, IntKind.wrap_i64]; omega) ?_)
      refine O_y hs (Y_add (c := ((x.toNat : Int) - 55)) rfl rfl (by omega) (by omega) ?_)
      refine O_a rfl ?_
      refine O_nil (T_kp [2] rfl ?_)
      refine T_ret ?_
      refine Rt_fin (vs := [_]) Tryz.results129 rfl ⟨rfl, trivial⟩ ?_
      try dsimp only [tup]
      exact ⟨_, [], hs.done, rfl, by unfold hexI; rw [if_neg (by omega), if_neg (by omega), if_pos (by omega)]⟩
     ·
      dsimp only [cmpP] at h26
      refine O_y hs (Y_pickT rfl rfl ?_)
      refine O_nil (T_kp [0, 27] rfl ?_)
      refine T_condF rfl (T_skip ?_)
      refine T_seq (T_region rfl ?_)
      refine O_a rfl ?_
      refine O_nil (T_kp [2] rfl ?_)
      refine T_ret ?_
      refine Rt_fin (vs := [_]) Tryz.results129 rfl ⟨rfl, trivial⟩ ?_
      try dsimp only [tup]
      exact ⟨_, [], hs.done, rfl, by unfold hexI; rw [if_neg (by omega), if_neg (by omega), if_neg (by omega)]⟩
    ·
     dsimp only [cmpP] at h23
     refine O_m rfl ?_
     refine O_no 24 rfl rfl ?_
     refine O_no 24 rfl rfl ?_
     refine O_y hs (Y_pickF rfl rfl ?_)
     refine O_nil (T_kp [0, 27] rfl ?_)
     refine T_condF rfl (T_skip ?_)
     refine T_seq (T_region rfl ?_)
     refine O_a rfl ?_
     refine O_nil (T_kp [2] rfl ?_)
     refine T_ret ?_
     refine Rt_fin (vs := [_]) Tryz.results129 rfl ⟨rfl, trivial⟩ ?_
     try dsimp only [tup]
     exact ⟨_, [], hs.done, rfl, by unfold hexI; rw [if_neg (by omega), if_neg (by omega), if_neg (by omega)]⟩
  ·
   dsimp only [cmpP] at h13
   refine O_m rfl ?_
   refine O_no 14 rfl rfl ?_
   refine O_no 14 rfl rfl ?_
   refine O_y hs (Y_pickF rfl rfl ?_)
   refine O_nil (T_kp [0, 17] rfl ?_)
   refine T_condF rfl (T_skip ?_)
   refine T_seq (T_seq (T_region rfl ?_))
   refine O_m rfl ?_
   refine O_y hs (Y_cmpS rfl rfl rfl (fun h23 => ?_) (fun h23 => ?_))
   ·
    dsimp only [cmpP] at h23
    refine O_m rfl ?_
    refine O_yy 24 hs rfl rfl (Y_move rfl ?_)
    refine O_yy 24 hs rfl rfl (Y_cmpS rfl rfl rfl (fun h26 => ?_) (fun h26 => ?_))
    ·
     dsimp only [cmpP] at h26
     refine O_y hs (Y_pickT rfl rfl ?_)
     refine O_nil (T_kp [0, 27] rfl ?_)
     refine T_condT rfl (T_seq (T_region rfl ?_))
     refine O_m rfl ?_
     refine O_y hs (Y_subW rfl rfl ?_)
     refine O_y hs (Y_conv Tryz.underlying5 Tryz.underlying3 (c := ((x.toNat : Int) - 65)) rfl (by rw [IntKind.wrap_u8, IntKind.wrap_i64]; omega) ?_)
     refine O_y hs (Y_add (c := ((x.toNat : Int) - 55)) rfl rfl (by omega) (by omega) ?_)
     refine O_a rfl ?_
     refine O_nil (T_kp [2] rfl ?_)
     refine T_ret ?_
     refine Rt_fin (vs := [_]) Tryz.results129 rfl ⟨rfl, trivial⟩ ?_
     try dsimp only [tup]
     exact ⟨_, [], hs.done, rfl, by unfold hexI; rw [if_neg (by omega), if_neg (by omega), if_pos (by omega)]⟩
    ·
     dsimp only [cmpP] at h26
     refine O_y hs (Y_pickT rfl rfl ?_)
     refine O_nil (T_kp [0, 27] rfl ?_)
     refine T_condF rfl (T_skip ?_)
     refine T_seq (T_region rfl ?_)
     refine O_a rfl ?_
     refine O_nil (T_kp [2] rfl ?_)
     refine T_ret ?_
     refine Rt_fin (vs := [_]) Tryz.results129 rfl ⟨rfl, trivial⟩ ?_
     try dsimp only [tup]
     exact ⟨_, [], hs.done, rfl, by unfold hexI; rw [if_neg (by omega), if_neg (by omega), if_neg (by omega)]⟩
   ·
    dsimp only [cmpP] at h23
    refine O_m rfl ?_
    refine O_no 24 rfl rfl ?_
    refine O_no 24 rfl rfl ?_
    refine O_y hs (Y_pickF rfl rfl ?_)
    refine O_nil (T_kp [0, 27] rfl ?_)
    refine T_condF rfl (T_skip ?_)
    refine T_seq (T_region rfl ?_)
    refine O_a rfl ?_
    refine O_nil (T_kp [2] rfl ?_)
    refine T_ret ?_
    refine Rt_fin (vs := [_]) Tryz.results129 rfl ⟨rfl, trivial⟩ ?_
    try dsimp only [tup]
    exact ⟨_, [], hs.done, rfl, by unfold hexI; rw [if_neg (by omega), if_neg (by omega), if_neg (by omega)]⟩

set_option maxHeartbeats 400000 in
set_option maxRecDepth 10000 in
theorem rplain_ok {G : Ghost} {x : UInt8} :
  FnOk Tryz.prog 98 [.int .u8 (x.toNat : Int)] G [] fun r _ H' => H' = [] ∧ r = .bool (plainB x) := by
 have hx := x.toNat_lt
 have h17 : ([33, 38, 40, 41, 42, 43, 45, 46, 63, 91, 92, 93, 94, 123, 124, 125, 126] : List UInt8).length = 17 := rfl
 have hz17 : (⟨#[33, 38, 40, 41, 42, 43, 45, 46, 63, 91, 92, 93, 94, 123, 124, 125, 126]⟩ : ByteArray).size = 17 := rfl
 refine FnOk.of_T [(0, _)] Tryz.func98 rfl Tryz.ntmps98 (by simp) rfl fun w0 hs => ?_
 refine T_seq (T_region rfl ?_)
 refine O_a rfl ?_
 refine O_nil (T_kp [0] rfl ?_)
 refine T_seq (T_seq (T_region rfl ?_))
 refine O_m rfl ?_
 refine O_y hs (Y_cmpS rfl rfl rfl (fun h6 => ?_) (fun h6 => ?_))
 ·
  dsimp only [cmpP] at h6
  refine O_m rfl ?_
  refine O_no 7 rfl rfl ?_
  refine O_no 7 rfl rfl ?_
  refine O_y hs (Y_pickT rfl rfl ?_)
  refine O_nil (T_kp [0, 10] rfl ?_)
  refine T_condT rfl (T_seq (T_region rfl ?_))
  refine O_a rfl ?_
  refine O_nil (T_kp [2] rfl ?_)
  refine T_ret ?_
  refine Rt_fin (vs := [_]) Tryz.results98 rfl ⟨rfl, trivial⟩ ?_
  try dsimp only [tup]
  exact ⟨_, [], hs.done, rfl, congrArg Value.bool (plain_1 (by omega)).symm⟩
 ·
  dsimp only [cmpP] at h6
  refine O_m rfl ?_
  refine O_yy 7 hs rfl rfl (Y_move rfl ?_)
  refine O_yy 7 hs rfl rfl (Y_cmpS rfl rfl rfl (fun h9 => ?_) (fun h9 => ?_))
  ·
   dsimp only [cmpP] at h9
   refine O_y hs (Y_pickF rfl rfl ?_)
   refine O_nil (T_kp [0, 10] rfl ?_)
   refine T_condT rfl (T_seq (T_region rfl ?_))
   refine O_a rfl ?_
   refine O_nil (T_kp [2] rfl ?_)
   refine T_ret ?_
   refine Rt_fin (vs := [_]) Tryz.results98 rfl ⟨rfl, trivial⟩ ?_
   try dsimp only [tup]
   exact ⟨_, [], hs.done, rfl, congrArg Value.bool (plain_1 (by omega)).symm⟩
  ·
   dsimp only [cmpP] at h9
   refine O_y hs (Y_pickF rfl rfl ?_)
   refine O_nil (T_kp [0, 10] rfl ?_)
   refine T_condF rfl (T_skip ?_)
   refine T_seq (T_region rfl ?_)
   refine O_a rfl ?_
   refine O_nil (T_kp [0, 3] rfl ?_)
   refine T_seq (T_seq (T_region rfl ?_))
   refine O_a rfl ?_
   refine O_nil (T_kp [0, 3, 4] rfl ?_)
   refine T_block (T_loop (fun m E w => ∃ (i : Nat) (G' : Ghost), i ≤ 17 ∧ (∀ j (hj : j < ([33, 38, 40, 41, 42, 43, 45, 46, 63, 91, 92, 93, 94, 123, 124, 125, 126] : List UInt8).length), j < i → ¬ ([33, 38, 40, 41, 42, 43, 45, 46, 63, 91, 92, 93, 94, 123, 124, 125, 126] : List UInt8)[j] = x) ∧ m = 17 - i ∧ E = ⟨[], [(0, .int .u8 (x.toNat : Int)), (3, .string ⟨#[33, 38, 40, 41, 42, 43, 45, 46, 63, 91, 92, 93, 94, 123, 124, 125, 126]⟩), (4, .int .i64 (i : Int))]⟩ ∧ St ⟨w0, G, feet []⟩ G' [] w) (L := [(0, _), (3, _), (4, _)]) ⟨rfl, rfl, rfl, trivial⟩ (⟨0, _, by omega, fun j _ h => absurd h (Nat.not_lt_zero j), rfl, rfl, hs⟩) fun m E w hI => ?_)
   obtain ⟨i, G', hi, hno, rfl, rfl, hs⟩ := hI
   refine T_seq (T_seq (T_region rfl ?_))
   refine O_m rfl ?_
   refine O_m rfl ?_
   refine O_y hs (Y_lenS Tryz.underlying9 rfl ?_)
   refine O_y hs (Y_cmpS rfl rfl rfl (fun h14 => ?_) (fun h14 => ?_))
   ·
    dsimp only [cmpP] at h14
    refine O_nil (T_kp [0, 3, 4, 14] rfl ?_)
    refine T_condT rfl (T_skip ?_)
    refine T_seq (T_block (T_seq (T_region rfl ?_)))
    refine O_m rfl ?_
    refine O_m rfl ?_
    refine O_y hs (Y_idxStr (b := ([33, 38, 40, 41, 42, 43, 45, 46, 63, 91, 92, 93, 94, 123, 124, 125, 126] : List UInt8)[i]'(by rw [h17]; omega)) i Tryz.underlying9 rfl rfl rfl (str_at (s := ([33, 38, 40, 41, 42, 43, 45, 46, 63, 91, 92, 93, 94, 123, 124, 125, 126] : List UInt8)) (List.getElem?_eq_getElem (by rw [h17]; omega))) ?_)
    refine O_m rfl ?_
    refine O_y hs (Y_cmpS rfl rfl rfl (fun h21 => ?_) (fun h21 => ?_))
    ·
     dsimp only [cmpP] at h21
     refine O_nil (T_kp [0, 3, 4, 21] rfl ?_)
     refine T_condT rfl (T_seq (T_region rfl ?_))
     refine O_a rfl ?_
     refine O_nil (T_kp [2] rfl ?_)
     refine T_ret ?_
     refine Rt_fin (vs := [_]) Tryz.results98 rfl ⟨rfl, trivial⟩ ?_
     try dsimp only [tup]
     exact ⟨_, [], hs.done, rfl, congrArg Value.bool (plain_3 (List.contains_iff_mem.2 (u8i h21 ▸ List.getElem_mem _))).symm⟩
    ·
     dsimp only [cmpP] at h21
     refine O_nil (T_kp [0, 3, 4, 21] rfl ?_)
     refine T_condF rfl (T_skip ?_)
     refine T_region rfl ?_
     refine O_m rfl ?_
     refine O_y hs (Y_add (c := ((i + 1 : Nat) : Int)) rfl rfl (by omega) (by omega) ?_)
     refine O_a rfl ?_
     refine O_nil ⟨_, ?_, [(0, _), (3, _), (4, _)], ⟨rfl, rfl, rfl, trivial⟩, ⟨i + 1, _, by omega, fun j hj h1 => (Nat.lt_or_ge j i).elim (hno j hj) (fun h2 => by obtain rfl : j = i := (by omega); exact fun e => h21 (by rw [e])), rfl, rfl, hs⟩⟩
     omega
   ·
    dsimp only [cmpP] at h14
    refine O_nil (T_kp [0, 3, 4, 14] rfl ?_)
    refine T_condF rfl (T_exit ?_)
    refine T_seq (T_region rfl ?_)
    refine O_a rfl ?_
    refine O_nil (T_kp [2] rfl ?_)
    refine T_ret ?_
    refine Rt_fin (vs := [_]) Tryz.results98 rfl ⟨rfl, trivial⟩ ?_
    try dsimp only [tup]
    exact ⟨_, [], hs.done, rfl, congrArg Value.bool (plain_2 (by omega) (by omega) (by rw [← Bool.not_eq_true, List.contains_iff_mem]; intro hm; obtain ⟨j, hj, e⟩ := List.getElem_of_mem hm; exact hno j hj (by omega) e)).symm⟩

theorem wrong_0 {G : Ghost} {p : Nat} {s : List UInt8} {q : Nat} {v : Value} (hq : q ≤ s.length) (hl : s.length ≤ 2000000) :
    FnOk Tryz.prog 128 [.pointer (some ⟨p, 0, none⟩)] G [.blk p 61 [.string ⟨s.toArray⟩, .int .i64 (q : Int), v, .int .i64 0, .int .i64 0]] fun r _ H' => H' = [.blk p 61 [.string ⟨s.toArray⟩, .int .i64 (q : Int), v, .int .i64 (unexp s q).1, .int .i64 ((unexp s q).2 : Int)]] := by have h := wrong_ok (G := G) (p := p) (v := v) (er := 0) (wh := 0) hq hl; rw [failE_t rfl, failW_t rfl] at h; exact h
theorem wrong_e {G : Ghost} {p : Nat} {s : List UInt8} {q : Nat} {v : Value} {er wh : Int} (hq : q ≤ s.length) (hl : s.length ≤ 2000000) (he : ¬ er = 0) :
    FnOk Tryz.prog 128 [.pointer (some ⟨p, 0, none⟩)] G [.blk p 61 [.string ⟨s.toArray⟩, .int .i64 (q : Int), v, .int .i64 er, .int .i64 wh]] fun r _ H' => H' = [.blk p 61 [.string ⟨s.toArray⟩, .int .i64 (q : Int), v, .int .i64 er, .int .i64 wh]] := by have h := wrong_ok (G := G) (p := p) (v := v) (er := er) (wh := wh) hq hl; rw [failE_f he, failW_f he] at h; exact h
theorem fail_0 {G : Ghost} {p : Nat} {s : List UInt8} {q : Nat} {v : Value} (hq : q ≤ s.length) (hl : s.length ≤ 2000000) {c w : Int} :
    FnOk Tryz.prog 36 [.pointer (some ⟨p, 0, none⟩), .int .i64 c, .int .i64 w] G [.blk p 61 [.string ⟨s.toArray⟩, .int .i64 (q : Int), v, .int .i64 0, .int .i64 0]] fun r _ H' => H' = [.blk p 61 [.string ⟨s.toArray⟩, .int .i64 (q : Int), v, .int .i64 c, .int .i64 w]] := by have h := fail_ok (G := G) (p := p) (v := v) (er := 0) (wh := 0) (c := c) (w := w) hq hl; rw [failE_t rfl, failW_t rfl] at h; exact h
theorem fail_e {G : Ghost} {p : Nat} {s : List UInt8} {q : Nat} {v : Value} {er wh : Int} (hq : q ≤ s.length) (hl : s.length ≤ 2000000) (he : ¬ er = 0) {c w : Int} :
    FnOk Tryz.prog 36 [.pointer (some ⟨p, 0, none⟩), .int .i64 c, .int .i64 w] G [.blk p 61 [.string ⟨s.toArray⟩, .int .i64 (q : Int), v, .int .i64 er, .int .i64 wh]] fun r _ H' => H' = [.blk p 61 [.string ⟨s.toArray⟩, .int .i64 (q : Int), v, .int .i64 er, .int .i64 wh]] := by have h := fail_ok (G := G) (p := p) (v := v) (er := er) (wh := wh) (c := c) (w := w) hq hl; rw [failE_f he, failW_f he] at h; exact h
theorem need_0t {G : Ghost} {p : Nat} {s : List UInt8} {q : Nat} {v : Value} (hq : q ≤ s.length) (hl : s.length ≤ 2000000) {b : UInt8} (hb : isB s q b = true) :
    FnOk Tryz.prog 113 [.pointer (some ⟨p, 0, none⟩), .int .u8 (b.toNat : Int)] G [.blk p 61 [.string ⟨s.toArray⟩, .int .i64 (q : Int), v, .int .i64 0, .int .i64 0]] fun r _ H' => H' = [.blk p 61 [.string ⟨s.toArray⟩, .int .i64 ((q + 1 : Nat) : Int), v, .int .i64 0, .int .i64 0]] := need_t hq hl (isR_ok.trans hb)
theorem need_0f {G : Ghost} {p : Nat} {s : List UInt8} {q : Nat} {v : Value} (hq : q ≤ s.length) (hl : s.length ≤ 2000000) {b : UInt8} (hb : isB s q b = false) :
    FnOk Tryz.prog 113 [.pointer (some ⟨p, 0, none⟩), .int .u8 (b.toNat : Int)] G [.blk p 61 [.string ⟨s.toArray⟩, .int .i64 (q : Int), v, .int .i64 0, .int .i64 0]] fun r _ H' => H' = [.blk p 61 [.string ⟨s.toArray⟩, .int .i64 (q : Int), v, .int .i64 (unexp s q).1, .int .i64 ((unexp s q).2 : Int)]] := by have h := need_f (G := G) (p := p) (v := v) (er := 0) (wh := 0) hq hl (isR_ok.trans hb); rw [failE_t rfl, failW_t rfl] at h; exact h
theorem need_e {G : Ghost} {p : Nat} {s : List UInt8} {q : Nat} {v : Value} {er wh : Int} (hq : q ≤ s.length) (hl : s.length ≤ 2000000) (he : ¬ er = 0) {b : UInt8} :
    FnOk Tryz.prog 113 [.pointer (some ⟨p, 0, none⟩), .int .u8 (b.toNat : Int)] G [.blk p 61 [.string ⟨s.toArray⟩, .int .i64 (q : Int), v, .int .i64 er, .int .i64 wh]] fun r _ H' => H' = [.blk p 61 [.string ⟨s.toArray⟩, .int .i64 (q : Int), v, .int .i64 er, .int .i64 wh]] := by have h := need_f (G := G) (p := p) (v := v) (er := er) (wh := wh) (b := b) hq hl (isR_0 he); rw [failE_f he, failW_f he] at h; exact h
theorem take_0t {G : Ghost} {p : Nat} {s : List UInt8} {q : Nat} {v : Value} (hq : q ≤ s.length) (hl : s.length ≤ 2000000) {b : UInt8} (hb : isB s q b = true) :
    FnOk Tryz.prog 52 [.pointer (some ⟨p, 0, none⟩), .int .u8 (b.toNat : Int)] G [.blk p 61 [.string ⟨s.toArray⟩, .int .i64 (q : Int), v, .int .i64 0, .int .i64 0]] fun r _ H' => H' = [.blk p 61 [.string ⟨s.toArray⟩, .int .i64 ((q + 1 : Nat) : Int), v, .int .i64 0, .int .i64 0]] ∧ r = .bool true := take_t hq hl (isR_ok.trans hb)
theorem take_0f {G : Ghost} {p : Nat} {s : List UInt8} {q : Nat} {v : Value} (hq : q ≤ s.length) (hl : s.length ≤ 2000000) {b : UInt8} (hb : isB s q b = false) :
    FnOk Tryz.prog 52 [.pointer (some ⟨p, 0, none⟩), .int .u8 (b.toNat : Int)] G [.blk p 61 [.string ⟨s.toArray⟩, .int .i64 (q : Int), v, .int .i64 0, .int .i64 0]] fun r _ H' => H' = [.blk p 61 [.string ⟨s.toArray⟩, .int .i64 (q : Int), v, .int .i64 0, .int .i64 0]] ∧ r = .bool false := take_f hq hl (isR_ok.trans hb)
theorem take_e {G : Ghost} {p : Nat} {s : List UInt8} {q : Nat} {v : Value} {er wh : Int} (hq : q ≤ s.length) (hl : s.length ≤ 2000000) (he : ¬ er = 0) {b : UInt8} :
    FnOk Tryz.prog 52 [.pointer (some ⟨p, 0, none⟩), .int .u8 (b.toNat : Int)] G [.blk p 61 [.string ⟨s.toArray⟩, .int .i64 (q : Int), v, .int .i64 er, .int .i64 wh]] fun r _ H' => H' = [.blk p 61 [.string ⟨s.toArray⟩, .int .i64 (q : Int), v, .int .i64 er, .int .i64 wh]] ∧ r = .bool false := take_f hq hl (isR_0 he)
theorem is_0 {G : Ghost} {p : Nat} {s : List UInt8} {q : Nat} {v : Value} (hq : q ≤ s.length) (hl : s.length ≤ 2000000) {b : UInt8} :
    FnOk Tryz.prog 72 [.pointer (some ⟨p, 0, none⟩), .int .u8 (b.toNat : Int)] G [.blk p 61 [.string ⟨s.toArray⟩, .int .i64 (q : Int), v, .int .i64 0, .int .i64 0]] fun r _ H' => H' = [.blk p 61 [.string ⟨s.toArray⟩, .int .i64 (q : Int), v, .int .i64 0, .int .i64 0]] ∧ r = .bool (isB s q b) := by have h := is_ok (G := G) (p := p) (v := v) (er := 0) (wh := 0) (b := b) hq hl; rw [isR_ok] at h; exact h
theorem is_e {G : Ghost} {p : Nat} {s : List UInt8} {q : Nat} {v : Value} {er wh : Int} (hq : q ≤ s.length) (hl : s.length ≤ 2000000) (he : ¬ er = 0) {b : UInt8} :
    FnOk Tryz.prog 72 [.pointer (some ⟨p, 0, none⟩), .int .u8 (b.toNat : Int)] G [.blk p 61 [.string ⟨s.toArray⟩, .int .i64 (q : Int), v, .int .i64 er, .int .i64 wh]] fun r _ H' => H' = [.blk p 61 [.string ⟨s.toArray⟩, .int .i64 (q : Int), v, .int .i64 er, .int .i64 wh]] ∧ r = .bool false := by have h := is_ok (G := G) (p := p) (v := v) (er := er) (wh := wh) (b := b) hq hl; rw [isR_0 he] at h; exact h
theorem hexI_le (x : UInt8) : hexI x ≤ 15 ∧ -1 ≤ hexI x := by
  unfold hexI; repeat' split
  all_goals omega


def COut (s : List UInt8) (q : Nat) (y : UInt8) (at_ : Nat) (er wh : Int) : Prop := (er = 0 ∧ wh = 0 ∧ charP s q = .ok (y, at_)) ∨ ∃ w : Nat, charP s q = .error (er, w) ∧ wh = (w : Int) ∧ ¬ er = 0 ∧ q ≤ at_ ∧ at_ ≤ s.length
theorem cout_err {s : List UInt8} {q at_ k : Nat} {y : UInt8} (h : charP s q = .error (unexp s k)) (h1 : q ≤ at_) (h2 : at_ ≤ s.length) : COut s q y at_ (unexp s k).1 ((unexp s k).2 : Int) := .inr ⟨_, h, rfl, unexp_nz s k, h1, h2⟩


set_option maxHeartbeats 2000000 in
set_option maxRecDepth 10000 in
theorem rchar_ok {G : Ghost} {p : Nat} {s : List UInt8} {q : Nat} {v : Value} (hq : q ≤ s.length) (hl : s.length ≤ 2000000) :
  FnOk Tryz.prog 115 [.pointer (some ⟨p, 0, none⟩)] G [.blk p 61 [.string ⟨s.toArray⟩, .int .i64 (q : Int), v, .int .i64 0, .int .i64 0]] fun r _ H' => ∃ (y : UInt8) (at_ : Nat) (er wh : Int), H' = [.blk p 61 [.string ⟨s.toArray⟩, .int .i64 (at_ : Int), v, .int .i64 er, .int .i64 wh]] ∧ r = .int .u8 (y.toNat : Int) ∧ COut s q y at_ er wh := by
 have hsz := bsz s
 refine FnOk.of_T [(0, _)] Tryz.func115 rfl Tryz.ntmps115 (by simp) rfl fun w0 hs => ?_
 refine T_seq (T_region rfl ?_)
 refine O_a rfl ?_
 refine O_nil (T_kp [0] rfl ?_)
 refine T_seq (T_seq (T_region rfl ?_))
 refine O_m rfl ?_
 cases hk6 : isB s q 92
 ·
  refine O_s (S_call (H1 := [_]) hs rfl Tryz.func52 rfl (by kernel_rfl) (take_0f (q := q) (by omega) hl hk6) fun v1 G' H' _ hR hG6 hs => ?_)
  obtain ⟨rfl, rfl⟩ := hR
  replace hs : St _ _ [_] _ := hs
  refine O_nil (T_kp [0, 6] rfl ?_)
  refine T_condF rfl (T_skip ?_)
  refine T_seq (T_seq (T_drawS [0, 1, 2, 3, 4, 5, 6, 7, 8, 9, 10, 11, 12, 13, 14, 15, 16, 17, 18, 19, 20, 21, 22, 23, 24, 25, 26, 27, 28, 29] hs (by kernel_rfl) ?_))
  replace hs := hs.drew
  refine A_take 0 rfl (by kernel_rfl) rfl hs (Y_move rfl ?_)
  refine A_take 1 rfl (by kernel_rfl) rfl hs (Y_nil rfl ?_)
  refine A_take 2 rfl (by kernel_rfl) rfl hs (Y_fieldAddr FO61_3 rfl (m := 3) rfl ?_)
  refine A_take 3 rfl (by kernel_rfl) rfl hs (Y_ld 0 Tryz.isAgg25 rfl rfl rfl ?_)
  refine A_take 4 rfl (by kernel_rfl) rfl hs (Y_cmpF rfl rfl rfl (fun h => h rfl) ?_)
  refine A_take 5 rfl (by kernel_rfl) rfl hs (Y_move rfl ?_)
  refine A_take 6 rfl (by kernel_rfl) rfl hs (Y_move rfl ?_)
  refine A_take 7 rfl (by kernel_rfl) rfl hs (Y_nil rfl ?_)
  refine A_take 8 rfl (by kernel_rfl) rfl hs (Y_fieldAddr FO61_1 rfl (m := 1) rfl ?_)
  refine A_take 9 rfl (by kernel_rfl) rfl hs (Y_ld 0 Tryz.isAgg3 rfl rfl rfl ?_)
  refine A_take 10 rfl (by kernel_rfl) rfl hs (Y_move rfl ?_)
  refine A_take 11 rfl (by kernel_rfl) rfl hs (Y_nil rfl ?_)
  refine A_take 12 rfl (by kernel_rfl) rfl hs (Y_fieldAddr FO61_0 rfl (m := 0) rfl ?_)
  refine A_take 13 rfl (by kernel_rfl) rfl hs (Y_ld 0 Tryz.isAgg9 rfl rfl rfl ?_)
  refine A_take 14 rfl (by kernel_rfl) rfl hs (Y_lenS Tryz.underlying9 rfl ?_)
  refine A_take 15 rfl (by kernel_rfl) rfl hs (Y_cmpS rfl rfl rfl (fun h82 => ?_) (fun h82 => ?_))
  ·
   dsimp only [cmpP] at h82
   refine A_take 16 rfl (by kernel_rfl) rfl hs (Y_pickF rfl rfl ?_)
   refine A_take 17 rfl (by kernel_rfl) rfl hs (Y_move rfl ?_)
   refine A_skip 18 rfl (by kernel_rfl) rfl hs ?_
   refine A_skip 19 rfl (by kernel_rfl) rfl hs ?_
   refine A_skip 20 rfl (by kernel_rfl) rfl hs ?_
   refine A_skip 21 rfl (by kernel_rfl) rfl hs ?_
   refine A_skip 22 rfl (by kernel_rfl) rfl hs ?_
   refine A_skip 23 rfl (by kernel_rfl) rfl hs ?_
   refine A_skip 24 rfl (by kernel_rfl) rfl hs ?_
   refine A_skip 25 rfl (by kernel_rfl) rfl hs ?_
   refine A_skip 26 rfl (by kernel_rfl) rfl hs ?_
   refine A_skip 27 rfl (by kernel_rfl) rfl hs ?_
   refine A_skip 28 rfl (by kernel_rfl) rfl hs ?_
   refine A_take 29 rfl (by kernel_rfl) rfl hs (Y_pickT rfl rfl ?_)
   refine A_done (by kernel_rfl) (T_kp [0, 96] rfl ?_)
   refine T_condT rfl (T_seq (T_region rfl ?_))
   refine O_m rfl ?_
   have hew := unexp_nz s q
   refine O_s (S_call (H1 := [_]) hs rfl Tryz.func128 rfl (by kernel_rfl) (wrong_0 (q := q) (by omega) hl) fun v2 G' H' _ hR hG98 hs => ?_)
   obtain rfl := hR
   replace hs : St _ _ [_] _ := hs
   refine O_nil (T_kp [] rfl ?_)
   refine T_seq (T_region rfl ?_)
   refine O_a rfl ?_
   refine O_nil (T_kp [2] rfl ?_)
   refine T_ret ?_
   refine Rt_fin (vs := [_]) Tryz.results115 rfl ⟨rfl, trivial⟩ ?_
   try dsimp only [tup]
   exact ⟨_, _, hs, 0, _, _, _, rfl, rfl, cout_err (charP_n hk6 (fun hlt => by first | omega | exact h94)) (by omega) (by omega)⟩
  ·
   dsimp only [cmpP] at h82
   refine A_take 16 rfl (by kernel_rfl) rfl hs (Y_pickF rfl rfl ?_)
   refine A_take 17 rfl (by kernel_rfl) rfl hs (Y_move rfl ?_)
   refine A_take 18 rfl (by kernel_rfl) rfl hs (Y_move rfl ?_)
   refine A_take 19 rfl (by kernel_rfl) rfl hs (Y_nil rfl ?_)
   refine A_take 20 rfl (by kernel_rfl) rfl hs (Y_fieldAddr FO61_0 rfl (m := 0) rfl ?_)
   refine A_take 21 rfl (by kernel_rfl) rfl hs (Y_ld 0 Tryz.isAgg9 rfl rfl rfl ?_)
   refine A_take 22 rfl (by kernel_rfl) rfl hs (Y_move rfl ?_)
   refine A_take 23 rfl (by kernel_rfl) rfl hs (Y_nil rfl ?_)
   refine A_take 24 rfl (by kernel_rfl) rfl hs (Y_fieldAddr FO61_1 rfl (m := 1) rfl ?_)
   refine A_take 25 rfl (by kernel_rfl) rfl hs (Y_ld 0 Tryz.isAgg3 rfl rfl rfl ?_)
   refine A_take 26 rfl (by kernel_rfl) rfl hs (Y_idxStr (b := s[q]'(by omega)) q Tryz.underlying9 rfl rfl rfl (str_at (List.getElem?_eq_getElem (by omega))) ?_)
   have hle := hs.le
   refine A_only 27 rfl (by kernel_rfl) rfl (S_call (H1 := []) hs rfl Tryz.func98 rfl (by kernel_rfl) (rplain_ok (x := s[q]'(by omega))) fun v3 G' H' _ hR hG94 hs => ?_)
   obtain ⟨rfl, rfl⟩ := hR
   replace hs : St _ _ [_] _ := hs
   cases h94 : plainB (s[q]'(by omega))
   ·
    refine A_moreS hs hle hG94 (List.Sublist.refl _) ?_
    refine A_take 28 rfl (by kernel_rfl) rfl hs (Y_not rfl ?_)
    refine A_take 29 rfl (by kernel_rfl) rfl hs (Y_pickF rfl rfl ?_)
    refine A_done (by kernel_rfl) (T_kp [0, 96] rfl ?_)
    refine T_condT rfl (T_seq (T_region rfl ?_))
    refine O_m rfl ?_
    have hew := unexp_nz s q
    refine O_s (S_call (H1 := [_]) hs rfl Tryz.func128 rfl (by kernel_rfl) (wrong_0 (q := q) (by omega) hl) fun v4 G' H' _ hR hG98 hs => ?_)
    obtain rfl := hR
    replace hs : St _ _ [_] _ := hs
    refine O_nil (T_kp [] rfl ?_)
    refine T_seq (T_region rfl ?_)
    refine O_a rfl ?_
    refine O_nil (T_kp [2] rfl ?_)
    refine T_ret ?_
    refine Rt_fin (vs := [_]) Tryz.results115 rfl ⟨rfl, trivial⟩ ?_
    try dsimp only [tup]
    exact ⟨_, _, hs, 0, _, _, _, rfl, rfl, cout_err (charP_n hk6 (fun hlt => by first | omega | exact h94)) (by omega) (by omega)⟩
   ·
    refine A_moreS hs hle hG94 (List.Sublist.refl _) ?_
    refine A_take 28 rfl (by kernel_rfl) rfl hs (Y_not rfl ?_)
    refine A_take 29 rfl (by kernel_rfl) rfl hs (Y_pickF rfl rfl ?_)
    refine A_done (by kernel_rfl) (T_kp [0, 96] rfl ?_)
    refine T_condF rfl (T_skip ?_)
    refine T_seq (T_region rfl ?_)
    refine O_m rfl ?_
    refine O_y hs (Y_nil rfl ?_)
    refine O_y hs (Y_fieldAddr FO61_1 rfl (m := 1) rfl ?_)
    refine O_y hs (Y_ld 0 Tryz.isAgg3 rfl rfl rfl ?_)
    refine O_y hs (Y_add (c := ((q + 1 : Nat) : Int)) rfl rfl (by omega) (by omega) ?_)
    refine O_y hs (Y_nil rfl ?_)
    refine O_y hs (Y_fieldAddr FO61_1 rfl (m := 1) rfl ?_)
    refine O_n (S_st hs Tryz.sizeOf3 rfl rfl rfl (by simp) (cs' := [_, _, _, _, _]) rfl fun _ hs => ?_)
    refine O_nil (T_kp [0] rfl ?_)
    refine T_seq (T_drawS [0, 1, 2, 3, 4, 5, 6, 7, 8, 9, 10] hs (by kernel_rfl) ?_)
    replace hs := hs.drew
    refine A_take 0 rfl (by kernel_rfl) rfl hs (Y_move rfl ?_)
    refine A_take 1 rfl (by kernel_rfl) rfl hs (Y_nil rfl ?_)
    refine A_take 2 rfl (by kernel_rfl) rfl hs (Y_fieldAddr FO61_0 rfl (m := 0) rfl ?_)
    refine A_take 3 rfl (by kernel_rfl) rfl hs (Y_ld 0 Tryz.isAgg9 rfl rfl rfl ?_)
    refine A_take 4 rfl (by kernel_rfl) rfl hs (Y_move rfl ?_)
    refine A_take 5 rfl (by kernel_rfl) rfl hs (Y_nil rfl ?_)
    refine A_take 6 rfl (by kernel_rfl) rfl hs (Y_fieldAddr FO61_1 rfl (m := 1) rfl ?_)
    refine A_take 7 rfl (by kernel_rfl) rfl hs (Y_ld 0 Tryz.isAgg3 rfl rfl rfl ?_)
    refine A_take 8 rfl (by kernel_rfl) rfl hs (Y_sub (c := ((q : Nat) : Int)) rfl rfl (by omega) (by omega) ?_)
    refine A_take 9 rfl (by kernel_rfl) rfl hs (Y_idxStr (b := s[q]'(by omega)) q Tryz.underlying9 rfl rfl rfl (str_at (List.getElem?_eq_getElem (by omega))) ?_)
    refine A_take 10 rfl (by kernel_rfl) rfl hs (Y_assign rfl ?_)
    refine A_done (by kernel_rfl) (T_kp [2] rfl ?_)
    refine T_ret ?_
    refine Rt_fin (vs := [_]) Tryz.results115 rfl ⟨rfl, trivial⟩ ?_
    try dsimp only [tup]
    exact ⟨_, _, hs, s[q]'(by omega), _, _, _, rfl, rfl, .inl ⟨rfl, rfl, charP_p hk6 (by omega) h94⟩⟩
 ·
  have hlt6 := isB_lt hk6
  refine O_s (S_call (H1 := [_]) hs rfl Tryz.func52 rfl (by kernel_rfl) (take_0t (q := q) (by omega) hl hk6) fun v5 G' H' _ hR hG6 hs => ?_)
  obtain ⟨rfl, rfl⟩ := hR
  replace hs : St _ _ [_] _ := hs
  refine O_nil (T_kp [0, 6] rfl ?_)
  refine T_condT rfl (T_seq (T_region rfl ?_))
  refine O_m rfl ?_
  cases hn8 : isB s (q + 1 : Nat) 120
  ·
   have hehn8 := unexp_nz s (q + 1 : Nat)
   refine O_s (S_call (H1 := [_]) hs rfl Tryz.func113 rfl (by kernel_rfl) (need_0f (q := (q + 1 : Nat)) (by omega) hl hn8) fun v6 G' H' _ hR hG8 hs => ?_)
   obtain rfl := hR
   replace hs : St _ _ [_] _ := hs
   refine O_nil (T_kp [0] rfl ?_)
   refine T_seq (T_region rfl ?_)
   refine O_a rfl ?_
   refine O_nil (T_kp [0, 3] rfl ?_)
   refine T_seq (T_seq (T_region rfl ?_))
   refine O_a rfl ?_
   refine O_nil (T_kp [0, 3, 4] rfl ?_)
   refine T_block (T_loopN 3 (L := [(0, _), (3, _), (4, _)]) ⟨rfl, rfl, rfl, trivial⟩ (U_go ?_))
   refine T_seq (T_seq (T_region rfl ?_))
   refine O_m rfl ?_
   refine O_y hs (Y_cmpT rfl rfl rfl (by decide) ?_)
   refine O_nil (T_kp [0, 3, 4, 10] rfl ?_)
   refine T_condT rfl (T_skip ?_)
   refine T_seq (T_block (T_seq (T_seq (T_drawS [0, 1, 2, 3, 4, 5, 6, 7, 8, 9, 10, 11, 12, 13, 14, 15, 16, 17, 18, 19, 20, 21, 22, 23, 24, 25, 26, 27, 28, 29] hs (by kernel_rfl) ?_))))
   replace hs := hs.drew
   refine A_take 0 rfl (by kernel_rfl) rfl hs (Y_move rfl ?_)
   refine A_take 1 rfl (by kernel_rfl) rfl hs (Y_nil rfl ?_)
   refine A_take 2 rfl (by kernel_rfl) rfl hs (Y_fieldAddr FO61_3 rfl (m := 3) rfl ?_)
   refine A_take 3 rfl (by kernel_rfl) rfl hs (Y_ld 0 Tryz.isAgg25 rfl rfl rfl ?_)
   refine A_take 4 rfl (by kernel_rfl) rfl hs (Y_cmpT rfl rfl rfl (hehn8) ?_)
   refine A_take 5 rfl (by kernel_rfl) rfl hs (Y_move rfl ?_)
   refine A_skip 6 rfl (by kernel_rfl) rfl hs ?_
   refine A_skip 7 rfl (by kernel_rfl) rfl hs ?_
   refine A_skip 8 rfl (by kernel_rfl) rfl hs ?_
   refine A_skip 9 rfl (by kernel_rfl) rfl hs ?_
   refine A_skip 10 rfl (by kernel_rfl) rfl hs ?_
   refine A_skip 11 rfl (by kernel_rfl) rfl hs ?_
   refine A_skip 12 rfl (by kernel_rfl) rfl hs ?_
   refine A_skip 13 rfl (by kernel_rfl) rfl hs ?_
   refine A_skip 14 rfl (by kernel_rfl) rfl hs ?_
   refine A_skip 15 rfl (by kernel_rfl) rfl hs ?_
   refine A_take 16 rfl (by kernel_rfl) rfl hs (Y_pickT rfl rfl ?_)
   refine A_take 17 rfl (by kernel_rfl) rfl hs (Y_move rfl ?_)
   refine A_skip 18 rfl (by kernel_rfl) rfl hs ?_
   refine A_skip 19 rfl (by kernel_rfl) rfl hs ?_
   refine A_skip 20 rfl (by kernel_rfl) rfl hs ?_
   refine A_skip 21 rfl (by kernel_rfl) rfl hs ?_
   refine A_skip 22 rfl (by kernel_rfl) rfl hs ?_
   refine A_skip 23 rfl (by kernel_rfl) rfl hs ?_
   refine A_skip 24 rfl (by kernel_rfl) rfl hs ?_
   refine A_skip 25 rfl (by kernel_rfl) rfl hs ?_
   refine A_skip 26 rfl (by kernel_rfl) rfl hs ?_
   refine A_skip 27 rfl (by kernel_rfl) rfl hs ?_
   refine A_skip 28 rfl (by kernel_rfl) rfl hs ?_
   refine A_take 29 rfl (by kernel_rfl) rfl hs (Y_pickT rfl rfl ?_)
   refine A_done (by kernel_rfl) (T_kp [0, 3, 4, 42] rfl ?_)
   refine T_condT rfl (T_seq (T_region rfl ?_))
   refine O_m rfl ?_
   refine O_s (S_call (H1 := [_]) hs rfl Tryz.func128 rfl (by kernel_rfl) (wrong_e (q := (q + 1 : Nat)) (by omega) hl hehn8) fun v7 G' H' _ hR hG44 hs => ?_)
   obtain rfl := hR
   replace hs : St _ _ [_] _ := hs
   refine O_nil (T_kp [] rfl ?_)
   refine T_seq (T_region rfl ?_)
   refine O_a rfl ?_
   refine O_nil (T_kp [2] rfl ?_)
   refine T_ret ?_
   refine Rt_fin (vs := [_]) Tryz.results115 rfl ⟨rfl, trivial⟩ ?_
   try dsimp only [tup]
   exact ⟨_, _, hs, 0, _, _, _, rfl, rfl, cout_err (charP_x1 hk6 hn8) (by omega) (by omega)⟩
  ·
   have hlthn8 := isB_lt hn8
   refine O_s (S_call (H1 := [_]) hs rfl Tryz.func113 rfl (by kernel_rfl) (need_0t (q := (q + 1 : Nat)) (by omega) hl hn8) fun v8 G' H' _ hR hG8 hs => ?_)
   obtain rfl := hR
   replace hs : St _ _ [_] _ := hs
   refine O_nil (T_kp [0] rfl ?_)
   refine T_seq (T_region rfl ?_)
   refine O_a rfl ?_
   refine O_nil (T_kp [0, 3] rfl ?_)
   refine T_seq (T_seq (T_region rfl ?_))
   refine O_a rfl ?_
   refine O_nil (T_kp [0, 3, 4] rfl ?_)
   refine T_block (T_loopN 3 (L := [(0, _), (3, _), (4, _)]) ⟨rfl, rfl, rfl, trivial⟩ (U_go ?_))
   refine T_seq (T_seq (T_region rfl ?_))
   refine O_m rfl ?_
   refine O_y hs (Y_cmpT rfl rfl rfl (by decide) ?_)
   refine O_nil (T_kp [0, 3, 4, 10] rfl ?_)
   refine T_condT rfl (T_skip ?_)
   refine T_seq (T_block (T_seq (T_seq (T_drawS [0, 1, 2, 3, 4, 5, 6, 7, 8, 9, 10, 11, 12, 13, 14, 15, 16, 17, 18, 19, 20, 21, 22, 23, 24, 25, 26, 27, 28, 29] hs (by kernel_rfl) ?_))))
   replace hs := hs.drew
   refine A_take 0 rfl (by kernel_rfl) rfl hs (Y_move rfl ?_)
   refine A_take 1 rfl (by kernel_rfl) rfl hs (Y_nil rfl ?_)
   refine A_take 2 rfl (by kernel_rfl) rfl hs (Y_fieldAddr FO61_3 rfl (m := 3) rfl ?_)
   refine A_take 3 rfl (by kernel_rfl) rfl hs (Y_ld 0 Tryz.isAgg25 rfl rfl rfl ?_)
   refine A_take 4 rfl (by kernel_rfl) rfl hs (Y_cmpF rfl rfl rfl (fun h => h rfl) ?_)
   refine A_take 5 rfl (by kernel_rfl) rfl hs (Y_move rfl ?_)
   refine A_take 6 rfl (by kernel_rfl) rfl hs (Y_move rfl ?_)
   refine A_take 7 rfl (by kernel_rfl) rfl hs (Y_nil rfl ?_)
   refine A_take 8 rfl (by kernel_rfl) rfl hs (Y_fieldAddr FO61_1 rfl (m := 1) rfl ?_)
   refine A_take 9 rfl (by kernel_rfl) rfl hs (Y_ld 0 Tryz.isAgg3 rfl rfl rfl ?_)
   refine A_take 10 rfl (by kernel_rfl) rfl hs (Y_move rfl ?_)
   refine A_take 11 rfl (by kernel_rfl) rfl hs (Y_nil rfl ?_)
   refine A_take 12 rfl (by kernel_rfl) rfl hs (Y_fieldAddr FO61_0 rfl (m := 0) rfl ?_)
   refine A_take 13 rfl (by kernel_rfl) rfl hs (Y_ld 0 Tryz.isAgg9 rfl rfl rfl ?_)
   refine A_take 14 rfl (by kernel_rfl) rfl hs (Y_lenS Tryz.underlying9 rfl ?_)
   refine A_take 15 rfl (by kernel_rfl) rfl hs (Y_cmpS rfl rfl rfl (fun h28 => ?_) (fun h28 => ?_))
   ·
    dsimp only [cmpP] at h28
    refine A_take 16 rfl (by kernel_rfl) rfl hs (Y_pickF rfl rfl ?_)
    refine A_take 17 rfl (by kernel_rfl) rfl hs (Y_move rfl ?_)
    refine A_skip 18 rfl (by kernel_rfl) rfl hs ?_
    refine A_skip 19 rfl (by kernel_rfl) rfl hs ?_
    refine A_skip 20 rfl (by kernel_rfl) rfl hs ?_
    refine A_skip 21 rfl (by kernel_rfl) rfl hs ?_
    refine A_skip 22 rfl (by kernel_rfl) rfl hs ?_
    refine A_skip 23 rfl (by kernel_rfl) rfl hs ?_
    refine A_skip 24 rfl (by kernel_rfl) rfl hs ?_
    refine A_skip 25 rfl (by kernel_rfl) rfl hs ?_
    refine A_skip 26 rfl (by kernel_rfl) rfl hs ?_
    refine A_skip 27 rfl (by kernel_rfl) rfl hs ?_
    refine A_skip 28 rfl (by kernel_rfl) rfl hs ?_
    refine A_take 29 rfl (by kernel_rfl) rfl hs (Y_pickT rfl rfl ?_)
    refine A_done (by kernel_rfl) (T_kp [0, 3, 4, 42] rfl ?_)
    refine T_condT rfl (T_seq (T_region rfl ?_))
    refine O_m rfl ?_
    have hew := unexp_nz s (q + 1 + 1 : Nat)
    refine O_s (S_call (H1 := [_]) hs rfl Tryz.func128 rfl (by kernel_rfl) (wrong_0 (q := (q + 1 + 1 : Nat)) (by omega) hl) fun v9 G' H' _ hR hG44 hs => ?_)
    obtain rfl := hR
    replace hs : St _ _ [_] _ := hs
    refine O_nil (T_kp [] rfl ?_)
    refine T_seq (T_region rfl ?_)
    refine O_a rfl ?_
    refine O_nil (T_kp [2] rfl ?_)
    refine T_ret ?_
    refine Rt_fin (vs := [_]) Tryz.results115 rfl ⟨rfl, trivial⟩ ?_
    try dsimp only [tup]
    exact ⟨_, _, hs, 0, _, _, _, rfl, rfl, cout_err (charP_x2 hk6 hn8 (by first | exact hexP_end (by omega) | exact hexI_none (by omega) h41)) (by omega) (by omega)⟩
   ·
    dsimp only [cmpP] at h28
    refine A_take 16 rfl (by kernel_rfl) rfl hs (Y_pickF rfl rfl ?_)
    refine A_take 17 rfl (by kernel_rfl) rfl hs (Y_move rfl ?_)
    refine A_take 18 rfl (by kernel_rfl) rfl hs (Y_move rfl ?_)
    refine A_take 19 rfl (by kernel_rfl) rfl hs (Y_nil rfl ?_)
    refine A_take 20 rfl (by kernel_rfl) rfl hs (Y_fieldAddr FO61_0 rfl (m := 0) rfl ?_)
    refine A_take 21 rfl (by kernel_rfl) rfl hs (Y_ld 0 Tryz.isAgg9 rfl rfl rfl ?_)
    refine A_take 22 rfl (by kernel_rfl) rfl hs (Y_move rfl ?_)
    refine A_take 23 rfl (by kernel_rfl) rfl hs (Y_nil rfl ?_)
    refine A_take 24 rfl (by kernel_rfl) rfl hs (Y_fieldAddr FO61_1 rfl (m := 1) rfl ?_)
    refine A_take 25 rfl (by kernel_rfl) rfl hs (Y_ld 0 Tryz.isAgg3 rfl rfl rfl ?_)
    refine A_take 26 rfl (by kernel_rfl) rfl hs (Y_idxStr (b := s[(q + 1 + 1 : Nat)]'(by omega)) (q + 1 + 1 : Nat) Tryz.underlying9 rfl rfl rfl (str_at (List.getElem?_eq_getElem (by omega))) ?_)
    have hle := hs.le
    refine A_only 27 rfl (by kernel_rfl) rfl (S_call (H1 := []) hs rfl Tryz.func129 rfl (by kernel_rfl) (rhex_ok (x := s[(q + 1 + 1 : Nat)]'(by omega))) fun v10 G' H' _ hR hG40 hs => ?_)
    obtain ⟨rfl, rfl⟩ := hR
    replace hs : St _ _ [_] _ := hs
    have hx2 := hexI_le (s[(q + 1 + 1 : Nat)]'(by omega))
    refine A_moreS hs hle hG40 (List.Sublist.refl _) ?_
    refine A_take 28 rfl (by kernel_rfl) rfl hs (Y_cmpS rfl rfl rfl (fun h41 => ?_) (fun h41 => ?_))
    ·
     dsimp only [cmpP] at h41
     refine A_take 29 rfl (by kernel_rfl) rfl hs (Y_pickF rfl rfl ?_)
     refine A_done (by kernel_rfl) (T_kp [0, 3, 4, 42] rfl ?_)
     refine T_condT rfl (T_seq (T_region rfl ?_))
     refine O_m rfl ?_
     have hew := unexp_nz s (q + 1 + 1 : Nat)
     refine O_s (S_call (H1 := [_]) hs rfl Tryz.func128 rfl (by kernel_rfl) (wrong_0 (q := (q + 1 + 1 : Nat)) (by omega) hl) fun v11 G' H' _ hR hG44 hs => ?_)
     obtain rfl := hR
     replace hs : St _ _ [_] _ := hs
     refine O_nil (T_kp [] rfl ?_)
     refine T_seq (T_region rfl ?_)
     refine O_a rfl ?_
     refine O_nil (T_kp [2] rfl ?_)
     refine T_ret ?_
     refine Rt_fin (vs := [_]) Tryz.results115 rfl ⟨rfl, trivial⟩ ?_
     try dsimp only [tup]
     exact ⟨_, _, hs, 0, _, _, _, rfl, rfl, cout_err (charP_x2 hk6 hn8 (by first | exact hexP_end (by omega) | exact hexI_none (by omega) h41)) (by omega) (by omega)⟩
    ·
     dsimp only [cmpP] at h41
     refine A_take 29 rfl (by kernel_rfl) rfl hs (Y_pickF rfl rfl ?_)
     refine A_done (by kernel_rfl) (T_kp [0, 3, 4, 42] rfl ?_)
     refine T_condF rfl (T_skip ?_)
     refine T_seq (T_drawS [0, 1, 2, 3, 4, 5, 6, 7, 8, 9, 10, 11, 12] hs (by kernel_rfl) ?_)
     replace hs := hs.drew
     refine A_take 0 rfl (by kernel_rfl) rfl hs (Y_move rfl ?_)
     refine A_take 1 rfl (by kernel_rfl) rfl hs (Y_mul (c := (16 * (0 : Int))) rfl rfl (by omega) (by omega) ?_)
     refine A_take 2 rfl (by kernel_rfl) rfl hs (Y_move rfl ?_)
     refine A_take 3 rfl (by kernel_rfl) rfl hs (Y_nil rfl ?_)
     refine A_take 4 rfl (by kernel_rfl) rfl hs (Y_fieldAddr FO61_0 rfl (m := 0) rfl ?_)
     refine A_take 5 rfl (by kernel_rfl) rfl hs (Y_ld 0 Tryz.isAgg9 rfl rfl rfl ?_)
     refine A_take 6 rfl (by kernel_rfl) rfl hs (Y_move rfl ?_)
     refine A_take 7 rfl (by kernel_rfl) rfl hs (Y_nil rfl ?_)
     refine A_take 8 rfl (by kernel_rfl) rfl hs (Y_fieldAddr FO61_1 rfl (m := 1) rfl ?_)
     refine A_take 9 rfl (by kernel_rfl) rfl hs (Y_ld 0 Tryz.isAgg3 rfl rfl rfl ?_)
     refine A_take 10 rfl (by kernel_rfl) rfl hs (Y_idxStr (b := s[(q + 1 + 1 : Nat)]'(by omega)) (q + 1 + 1 : Nat) Tryz.underlying9 rfl rfl rfl (str_at (List.getElem?_eq_getElem (by omega))) ?_)
     have hle := hs.le
     refine A_only 11 rfl (by kernel_rfl) rfl (S_call (H1 := []) hs rfl Tryz.func129 rfl (by kernel_rfl) (rhex_ok (x := s[(q + 1 + 1 : Nat)]'(by omega))) fun v12 G' H' _ hR hG56 hs => ?_)
     obtain ⟨rfl, rfl⟩ := hR
     replace hs : St _ _ [_] _ := hs
     refine A_moreS hs hle hG56 (List.Sublist.refl _) ?_
     refine A_take 12 rfl (by kernel_rfl) rfl hs (Y_add (c := (hexI (s[q + 1 + 1]'(by omega)))) rfl rfl (by omega) (by omega) ?_)
     refine A_tail 13 rfl (by kernel_rfl) (by kernel_rfl) rfl (S_y hs rfl (Y_assign rfl ?_))
     refine A_done (by kernel_rfl) (T_kp [0, 3, 4] rfl ?_)
     refine T_region rfl ?_
     refine O_m rfl ?_
     refine O_y hs (Y_nil rfl ?_)
     refine O_y hs (Y_fieldAddr FO61_1 rfl (m := 1) rfl ?_)
     refine O_y hs (Y_ld 0 Tryz.isAgg3 rfl rfl rfl ?_)
     refine O_y hs (Y_add (c := ((q + 1 + 1 + 1 : Nat) : Int)) rfl rfl (by omega) (by omega) ?_)
     refine O_y hs (Y_nil rfl ?_)
     refine O_y hs (Y_fieldAddr FO61_1 rfl (m := 1) rfl ?_)
     refine O_n (S_st hs Tryz.sizeOf3 rfl rfl rfl (by simp) (cs' := [_, _, _, _, _]) rfl fun _ hs => ?_)
     refine O_nil (T_kp [0, 3, 4] rfl ?_)
     refine T_region rfl ?_
     refine O_m rfl ?_
     refine O_y hs (Y_add (c := 1) rfl rfl (by decide) (by decide) ?_)
     refine O_a rfl ?_
     refine O_nil ⟨[(0, _), (3, _), (4, _)], ⟨rfl, rfl, rfl, trivial⟩, U_go ?_⟩
     refine T_seq (T_seq (T_region rfl ?_))
     refine O_m rfl ?_
     refine O_y hs (Y_cmpT rfl rfl rfl (by decide) ?_)
     refine O_nil (T_kp [0, 3, 4, 10] rfl ?_)
     refine T_condT rfl (T_skip ?_)
     refine T_seq (T_block (T_seq (T_seq (T_drawS [0, 1, 2, 3, 4, 5, 6, 7, 8, 9, 10, 11, 12, 13, 14, 15, 16, 17, 18, 19, 20, 21, 22, 23, 24, 25, 26, 27, 28, 29] hs (by kernel_rfl) ?_))))
     replace hs := hs.drew
     refine A_take 0 rfl (by kernel_rfl) rfl hs (Y_move rfl ?_)
     refine A_take 1 rfl (by kernel_rfl) rfl hs (Y_nil rfl ?_)
     refine A_take 2 rfl (by kernel_rfl) rfl hs (Y_fieldAddr FO61_3 rfl (m := 3) rfl ?_)
     refine A_take 3 rfl (by kernel_rfl) rfl hs (Y_ld 0 Tryz.isAgg25 rfl rfl rfl ?_)
     refine A_take 4 rfl (by kernel_rfl) rfl hs (Y_cmpF rfl rfl rfl (fun h => h rfl) ?_)
     refine A_take 5 rfl (by kernel_rfl) rfl hs (Y_move rfl ?_)
     refine A_take 6 rfl (by kernel_rfl) rfl hs (Y_move rfl ?_)
     refine A_take 7 rfl (by kernel_rfl) rfl hs (Y_nil rfl ?_)
     refine A_take 8 rfl (by kernel_rfl) rfl hs (Y_fieldAddr FO61_1 rfl (m := 1) rfl ?_)
     refine A_take 9 rfl (by kernel_rfl) rfl hs (Y_ld 0 Tryz.isAgg3 rfl rfl rfl ?_)
     refine A_take 10 rfl (by kernel_rfl) rfl hs (Y_move rfl ?_)
     refine A_take 11 rfl (by kernel_rfl) rfl hs (Y_nil rfl ?_)
     refine A_take 12 rfl (by kernel_rfl) rfl hs (Y_fieldAddr FO61_0 rfl (m := 0) rfl ?_)
     refine A_take 13 rfl (by kernel_rfl) rfl hs (Y_ld 0 Tryz.isAgg9 rfl rfl rfl ?_)
     refine A_take 14 rfl (by kernel_rfl) rfl hs (Y_lenS Tryz.underlying9 rfl ?_)
     refine A_take 15 rfl (by kernel_rfl) rfl hs (Y_cmpS rfl rfl rfl (fun h28 => ?_) (fun h28 => ?_))
     ·
      dsimp only [cmpP] at h28
      refine A_take 16 rfl (by kernel_rfl) rfl hs (Y_pickF rfl rfl ?_)
      refine A_take 17 rfl (by kernel_rfl) rfl hs (Y_move rfl ?_)
      refine A_skip 18 rfl (by kernel_rfl) rfl hs ?_
      refine A_skip 19 rfl (by kernel_rfl) rfl hs ?_
      refine A_skip 20 rfl (by kernel_rfl) rfl hs ?_
      refine A_skip 21 rfl (by kernel_rfl) rfl hs ?_
      refine A_skip 22 rfl (by kernel_rfl) rfl hs ?_
      refine A_skip 23 rfl (by kernel_rfl) rfl hs ?_
      refine A_skip 24 rfl (by kernel_rfl) rfl hs ?_
      refine A_skip 25 rfl (by kernel_rfl) rfl hs ?_
      refine A_skip 26 rfl (by kernel_rfl) rfl hs ?_
      refine A_skip 27 rfl (by kernel_rfl) rfl hs ?_
      refine A_skip 28 rfl (by kernel_rfl) rfl hs ?_
      refine A_take 29 rfl (by kernel_rfl) rfl hs (Y_pickT rfl rfl ?_)
      refine A_done (by kernel_rfl) (T_kp [0, 3, 4, 42] rfl ?_)
      refine T_condT rfl (T_seq (T_region rfl ?_))
      refine O_m rfl ?_
      have hew := unexp_nz s (q + 1 + 1 + 1 : Nat)
      refine O_s (S_call (H1 := [_]) hs rfl Tryz.func128 rfl (by kernel_rfl) (wrong_0 (q := (q + 1 + 1 + 1 : Nat)) (by omega) hl) fun v13 G' H' _ hR hG44 hs => ?_)
      obtain rfl := hR
      replace hs : St _ _ [_] _ := hs
      refine O_nil (T_kp [] rfl ?_)
      refine T_seq (T_region rfl ?_)
      refine O_a rfl ?_
      refine O_nil (T_kp [2] rfl ?_)
      refine T_ret ?_
      refine Rt_fin (vs := [_]) Tryz.results115 rfl ⟨rfl, trivial⟩ ?_
      try dsimp only [tup]
      exact ⟨_, _, hs, 0, _, _, _, rfl, rfl, cout_err (charP_x3 hk6 hn8 (hexI_some (by omega) (by omega)).choose_spec.1 (by first | exact hexP_end (by omega) | exact hexI_none (by omega) h41)) (by omega) (by omega)⟩
     ·
      dsimp only [cmpP] at h28
      refine A_take 16 rfl (by kernel_rfl) rfl hs (Y_pickF rfl rfl ?_)
      refine A_take 17 rfl (by kernel_rfl) rfl hs (Y_move rfl ?_)
      refine A_take 18 rfl (by kernel_rfl) rfl hs (Y_move rfl ?_)
      refine A_take 19 rfl (by kernel_rfl) rfl hs (Y_nil rfl ?_)
      refine A_take 20 rfl (by kernel_rfl) rfl hs (Y_fieldAddr FO61_0 rfl (m := 0) rfl ?_)
      refine A_take 21 rfl (by kernel_rfl) rfl hs (Y_ld 0 Tryz.isAgg9 rfl rfl rfl ?_)
      refine A_take 22 rfl (by kernel_rfl) rfl hs (Y_move rfl ?_)
      refine A_take 23 rfl (by kernel_rfl) rfl hs (Y_nil rfl ?_)
      refine A_take 24 rfl (by kernel_rfl) rfl hs (Y_fieldAddr FO61_1 rfl (m := 1) rfl ?_)
      refine A_take 25 rfl (by kernel_rfl) rfl hs (Y_ld 0 Tryz.isAgg3 rfl rfl rfl ?_)
      refine A_take 26 rfl (by kernel_rfl) rfl hs (Y_idxStr (b := s[(q + 1 + 1 + 1 : Nat)]'(by omega)) (q + 1 + 1 + 1 : Nat) Tryz.underlying9 rfl rfl rfl (str_at (List.getElem?_eq_getElem (by omega))) ?_)
      have hle := hs.le
      refine A_only 27 rfl (by kernel_rfl) rfl (S_call (H1 := []) hs rfl Tryz.func129 rfl (by kernel_rfl) (rhex_ok (x := s[(q + 1 + 1 + 1 : Nat)]'(by omega))) fun v14 G' H' _ hR hG40 hs => ?_)
      obtain ⟨rfl, rfl⟩ := hR
      replace hs : St _ _ [_] _ := hs
      have hx3 := hexI_le (s[(q + 1 + 1 + 1 : Nat)]'(by omega))
      refine A_moreS hs hle hG40 (List.Sublist.refl _) ?_
      refine A_take 28 rfl (by kernel_rfl) rfl hs (Y_cmpS rfl rfl rfl (fun h41 => ?_) (fun h41 => ?_))
      ·
       dsimp only [cmpP] at h41
       refine A_take 29 rfl (by kernel_rfl) rfl hs (Y_pickF rfl rfl ?_)
       refine A_done (by kernel_rfl) (T_kp [0, 3, 4, 42] rfl ?_)
       refine T_condT rfl (T_seq (T_region rfl ?_))
       refine O_m rfl ?_
       have hew := unexp_nz s (q + 1 + 1 + 1 : Nat)
       refine O_s (S_call (H1 := [_]) hs rfl Tryz.func128 rfl (by kernel_rfl) (wrong_0 (q := (q + 1 + 1 + 1 : Nat)) (by omega) hl) fun v15 G' H' _ hR hG44 hs => ?_)
       obtain rfl := hR
       replace hs : St _ _ [_] _ := hs
       refine O_nil (T_kp [] rfl ?_)
       refine T_seq (T_region rfl ?_)
       refine O_a rfl ?_
       refine O_nil (T_kp [2] rfl ?_)
       refine T_ret ?_
       refine Rt_fin (vs := [_]) Tryz.results115 rfl ⟨rfl, trivial⟩ ?_
       try dsimp only [tup]
       exact ⟨_, _, hs, 0, _, _, _, rfl, rfl, cout_err (charP_x3 hk6 hn8 (hexI_some (by omega) (by omega)).choose_spec.1 (by first | exact hexP_end (by omega) | exact hexI_none (by omega) h41)) (by omega) (by omega)⟩
      ·
       dsimp only [cmpP] at h41
       refine A_take 29 rfl (by kernel_rfl) rfl hs (Y_pickF rfl rfl ?_)
       refine A_done (by kernel_rfl) (T_kp [0, 3, 4, 42] rfl ?_)
       refine T_condF rfl (T_skip ?_)
       refine T_seq (T_drawS [0, 1, 2, 3, 4, 5, 6, 7, 8, 9, 10, 11, 12] hs (by kernel_rfl) ?_)
       replace hs := hs.drew
       refine A_take 0 rfl (by kernel_rfl) rfl hs (Y_move rfl ?_)
       refine A_take 1 rfl (by kernel_rfl) rfl hs (Y_mul (c := (16 * (hexI (s[q + 1 + 1]'(by omega))))) rfl rfl (by omega) (by omega) ?_)
       refine A_take 2 rfl (by kernel_rfl) rfl hs (Y_move rfl ?_)
       refine A_take 3 rfl (by kernel_rfl) rfl hs (Y_nil rfl ?_)
       refine A_take 4 rfl (by kernel_rfl) rfl hs (Y_fieldAddr FO61_0 rfl (m := 0) rfl ?_)
       refine A_take 5 rfl (by kernel_rfl) rfl hs (Y_ld 0 Tryz.isAgg9 rfl rfl rfl ?_)
       refine A_take 6 rfl (by kernel_rfl) rfl hs (Y_move rfl ?_)
       refine A_take 7 rfl (by kernel_rfl) rfl hs (Y_nil rfl ?_)
       refine A_take 8 rfl (by kernel_rfl) rfl hs (Y_fieldAddr FO61_1 rfl (m := 1) rfl ?_)
       refine A_take 9 rfl (by kernel_rfl) rfl hs (Y_ld 0 Tryz.isAgg3 rfl rfl rfl ?_)
       refine A_take 10 rfl (by kernel_rfl) rfl hs (Y_idxStr (b := s[(q + 1 + 1 + 1 : Nat)]'(by omega)) (q + 1 + 1 + 1 : Nat) Tryz.underlying9 rfl rfl rfl (str_at (List.getElem?_eq_getElem (by omega))) ?_)
       have hle := hs.le
       refine A_only 11 rfl (by kernel_rfl) rfl (S_call (H1 := []) hs rfl Tryz.func129 rfl (by kernel_rfl) (rhex_ok (x := s[(q + 1 + 1 + 1 : Nat)]'(by omega))) fun v16 G' H' _ hR hG56 hs => ?_)
       obtain ⟨rfl, rfl⟩ := hR
       replace hs : St _ _ [_] _ := hs
       refine A_moreS hs hle hG56 (List.Sublist.refl _) ?_
       refine A_take 12 rfl (by kernel_rfl) rfl hs (Y_add (c := (16 * (hexI (s[q + 1 + 1]'(by omega))) + (hexI (s[q + 1 + 1 + 1]'(by omega))))) rfl rfl (by omega) (by omega) ?_)
       refine A_tail 13 rfl (by kernel_rfl) (by kernel_rfl) rfl (S_y hs rfl (Y_assign rfl ?_))
       refine A_done (by kernel_rfl) (T_kp [0, 3, 4] rfl ?_)
       refine T_region rfl ?_
       refine O_m rfl ?_
       refine O_y hs (Y_nil rfl ?_)
       refine O_y hs (Y_fieldAddr FO61_1 rfl (m := 1) rfl ?_)
       refine O_y hs (Y_ld 0 Tryz.isAgg3 rfl rfl rfl ?_)
       refine O_y hs (Y_add (c := ((q + 1 + 1 + 1 + 1 : Nat) : Int)) rfl rfl (by omega) (by omega) ?_)
       refine O_y hs (Y_nil rfl ?_)
       refine O_y hs (Y_fieldAddr FO61_1 rfl (m := 1) rfl ?_)
       refine O_n (S_st hs Tryz.sizeOf3 rfl rfl rfl (by simp) (cs' := [_, _, _, _, _]) rfl fun _ hs => ?_)
       refine O_nil (T_kp [0, 3, 4] rfl ?_)
       refine T_region rfl ?_
       refine O_m rfl ?_
       refine O_y hs (Y_add (c := 2) rfl rfl (by decide) (by decide) ?_)
       refine O_a rfl ?_
       refine O_nil ⟨[(0, _), (3, _), (4, _)], ⟨rfl, rfl, rfl, trivial⟩, U_go ?_⟩
       refine T_seq (T_seq (T_region rfl ?_))
       refine O_m rfl ?_
       refine O_y hs (Y_cmpF rfl rfl rfl (by decide) ?_)
       refine O_nil (T_kp [0, 3, 4, 10] rfl ?_)
       refine T_condF rfl (T_exit ?_)
       refine T_seq (T_region rfl ?_)
       refine O_m rfl ?_
       obtain ⟨y0, hy0, hw0, hz0⟩ := hexI_some (s := s) (q := q + 1 + 1) (by omega) (by omega)
       obtain ⟨y1, hy1, hw1, hz1⟩ := hexI_some (s := s) (q := q + 1 + 1 + 1) (by omega) (by omega)
       refine O_y hs (Y_conv Tryz.underlying3 Tryz.underlying5 (c := ((16 * y0 + y1 : UInt8).toNat : Int)) rfl (by rw [hw0, hw1, IntKind.wrap_u8, UInt8.toNat_add, UInt8.toNat_mul, show (16 : UInt8).toNat = 16 from rfl]; omega) ?_)
       refine O_a rfl ?_
       refine O_nil (T_kp [2] rfl ?_)
       refine T_ret ?_
       refine Rt_fin (vs := [_]) Tryz.results115 rfl ⟨rfl, trivial⟩ ?_
       try dsimp only [tup]
       exact ⟨_, _, hs, 16 * y0 + y1, _, _, _, rfl, rfl, .inl ⟨rfl, rfl, charP_x hk6 hn8 hy0 hy1⟩⟩

set_option maxHeartbeats 400000 in
set_option maxRecDepth 10000 in
theorem rone_ok {G : Ghost} {x : UInt8} :
  FnOk Tryz.prog 73 [.int .u8 (x.toNat : Int)] G [] fun r _ H' => H' = [] ∧ r = ClsV (addF noC x) := by
 have hal : (addF noC x).length = 4 := addF_len noC x
 have hx := x.toNat_lt
 refine FnOk.of_T [(0, _)] Tryz.func73 rfl Tryz.ntmps73 (by simp) rfl fun w0 hs => ?_
 refine T_seq (T_region rfl ?_)
 refine O_s (S_alloc hs Tryz.zeroValue40 (cs := (List.map u64V [0, 0, 0, 0])) rfl fun b2 _ hs => ?_)
 refine O_nil (T_kp [0, 2] rfl ?_)
 refine T_seq (T_region rfl ?_)
 refine O_y hs (Y_buildA Tryz.underlying40 Tryz.sizeOf38 Tryz.zeroValue40 rfl rfl (cs := [_, _, _, _]) rfl ?_)
 refine O_m rfl ?_
 refine O_s (S_call (H1 := []) hs rfl Tryz.func30 rfl (by kernel_rfl) (radd_ok (c := noC) (x := x) rfl) fun v1 G' H' _ hR hG5 hs => ?_)
 obtain ⟨rfl, rfl⟩ := hR
 replace hs : St _ _ [_] _ := hs
 refine O_n (S_stW hs Tryz.sizeOf40 rfl rfl (vs := (List.map u64V (addF noC x))) (by first | omega | (simp; omega) | simp) (by first | omega | (simp; omega) | simp) (u64_all _) fun _ hs => ?_)
 refine O_nil (T_kp [2] rfl ?_)
 refine T_ret ?_
 have hr := hs
 refine Rt_fin (vs := [_]) Tryz.results73 rfl ⟨ResOk_blk 0 hr Tryz.isAgg40 Tryz.sizeOf40 rfl (cs := (List.map u64V (addF noC x))) rfl (by first | omega | (simp; omega) | simp), trivial⟩ ?_
 try dsimp only [tup]
 exact ⟨_, [], hs.done, rfl, rfl⟩

def allC : List Nat := [18446744073709551615, 18446744073709551615, 18446744073709551615, 18446744073709551615]
def mixC (c : List Nat) (i : Nat) : List Nat := (notF c).take i ++ c.drop i
theorem mixC_len {c : List Nat} (hc : c.length = 4) {i : Nat} (hi : i ≤ 4) : (mixC c i).length = 4 := by unfold mixC; rw [List.length_append, List.length_take, List.length_drop, notF_len hc]; omega
theorem mixC_set {c : List Nat} (hc : c.length = 4) {i : Nat} (hi : i < 4) : ((mixC c i).map u64V).set i (u64V (xor64 18446744073709551615 (c.getD i 0))) = (mixC c (i + 1)).map u64V := by
  obtain ⟨a, b, d, e, rfl⟩ := four_of hc
  rcases (by omega : i = 0 ∨ i = 1 ∨ i = 2 ∨ i = 3) with rfl | rfl | rfl | rfl <;> rfl
theorem mixC_get {c : List Nat} (hc : c.length = 4) {i : Nat} (hi : i < 4) : ((mixC c i).map u64V)[i]? = some (u64V (c.getD i 0)) := by
  obtain ⟨a, b, d, e, rfl⟩ := four_of hc
  rcases (by omega : i = 0 ∨ i = 1 ∨ i = 2 ∨ i = 3) with rfl | rfl | rfl | rfl <;> rfl
theorem allC_get {i : Nat} (hi : i < 4) : (allC.map u64V)[i]? = some (u64V 18446744073709551615) := by
  rcases (by omega : i = 0 ∨ i = 1 ∨ i = 2 ∨ i = 3) with rfl | rfl | rfl | rfl <;> rfl
theorem Y_xor64 {x : Cx} {W : World → Prop} {E : Env} {K : Value → Prop} {d : Option Tmp} {ty xt yt : TypeId} {pos : String} {aft : Array Edge} {g : Option (Nat × Bool)} {o p : Operand} {a b : Nat} (h1 : ev E o = some (u64V a)) (h2 : ev E p = some (u64V b)) (k : K (u64V (xor64 a b))) : Y x W ⟨d, .binOp .xor xt o p yt, ty, pos, aft, g⟩ E K :=
  Y_bits h1 h2 (by simp) (bits_xor a b) k
theorem mixC_4 {c : List Nat} (hc : c.length = 4) : mixC c 4 = notF c := by unfold mixC; rw [List.take_of_length_le (by rw [notF_len hc]; omega), List.drop_of_length_le (by omega), List.append_nil]


set_option maxHeartbeats 400000 in
set_option maxRecDepth 10000 in
theorem rall_ok {G : Ghost} :
  FnOk Tryz.prog 74 [] G [] fun r _ H' => H' = [] ∧ r = ClsV allC := by
 refine FnOk.of_T [] Tryz.func74 rfl Tryz.ntmps74 (by simp) rfl fun w0 hs => ?_
 refine T_seq (T_region rfl ?_)
 refine O_s (S_alloc hs Tryz.zeroValue40 (cs := [_, _, _, _]) rfl fun b0 _ hs => ?_)
 refine O_nil (T_kp [0] rfl ?_)
 refine T_seq (T_region rfl ?_)
 refine O_y hs (Y_buildA Tryz.underlying40 Tryz.sizeOf38 Tryz.zeroValue40 rfl rfl (cs := [_, _, _, _]) rfl ?_)
 refine O_n (S_stA hs Tryz.sizeOf40 rfl rfl (vs := [_, _, _, _]) rfl (rfl) (by simp) (cs' := [_, _, _, _]) rfl fun _ hs => ?_)
 refine O_nil (T_kp [0] rfl ?_)
 refine T_ret ?_
 have hr := hs
 refine Rt_fin (vs := [_]) Tryz.results74 rfl ⟨ResOk_blk 0 hr Tryz.isAgg40 Tryz.sizeOf40 rfl (cs := [_, _, _, _]) rfl rfl, trivial⟩ ?_
 try dsimp only [tup]
 exact ⟨_, [], hs.done, rfl, rfl⟩

theorem digs_go {s : List UInt8} {q k : Nat} (hk : k ≤ (digsF (s.drop q)).length) : k < (digsF (s.drop q)).length ↔ (48 ≤ peekI s (q + k) ∧ peekI s (q + k) ≤ 57 ∧ (k = 0 ∨ ¬ s[q]? = some 48)) := by
  by_cases h : s[q]? = some 48
  · rw [digs_zero h] at hk ⊢
    constructor
    · intro h1
      obtain rfl : k = 0 := by simpa using h1
      refine ⟨?_, ?_, .inl rfl⟩ <;> (unfold peekI; rw [Nat.add_zero, h]; decide)
    · rintro ⟨_, _, rfl | h'⟩
      · decide
      · exact absurd h h'
  · rw [digs_tw h] at hk ⊢
    have := tw_at hk
    exact ⟨fun h1 => ⟨(this.2 h1).1, (this.2 h1).2, .inr h⟩, fun h1 => this.1 ⟨h1.1, h1.2.1⟩⟩
def satF (l : List UInt8) : Nat := l.foldl (fun n b => min (10 * n + (b.toNat - 48)) 1000) 0
theorem sat_val (l : List UInt8) : satF l = min (valF l) 1000 := by
  have key : ∀ (l : List UInt8) (a b : Nat), b = min a 1000 → l.foldl (fun n b => min (10 * n + (b.toNat - 48)) 1000) b = min (l.foldl (fun n b => 10 * n + (b.toNat - 48)) a) 1000 := by
    intro l
    induction l with
    | nil => intro a b h; exact h
    | cons x t ih => intro a b h; rw [List.foldl_cons, List.foldl_cons]; exact ih _ _ (by omega)
  exact key l 0 0 rfl
theorem sat_le (l : List UInt8) : satF l ≤ 1000 := by rw [sat_val]; omega
theorem sat_nil {l : List UInt8} (h : l.length = 0) : satF l = 0 := by rw [List.length_eq_zero_iff.1 h]; rfl
theorem sat_snoc {D : List UInt8} {k : Nat} (h : k < D.length) : satF (D.take (k + 1)) = min (10 * satF (D.take k) + (D[k].toNat - 48)) 1000 := by unfold satF; rw [foldl_take_succ _ _ _ _ h]
theorem digs_get {s : List UInt8} {q k : Nat} (h : k < (digsF (s.drop q)).length) (h2 : q + k < s.length) : (digsF (s.drop q))[k] = s[q + k] := by
  have e := digs_take (s.drop q)
  have h3 : (digsF (s.drop q))[k]? = s[q + k]? := by
    rw [← e, List.getElem?_take_of_lt h, List.getElem?_drop]
  rw [List.getElem?_eq_getElem h, List.getElem?_eq_getElem h2] at h3
  exact Option.some.inj h3
theorem fold10_ge : ∀ (l : List UInt8) (n : Nat), n * 10 ^ l.length ≤ l.foldl (fun n b => 10 * n + (b.toNat - 48)) n
  | [], n => by simp
  | x :: t, n => by
    rw [List.foldl_cons, List.length_cons, Nat.pow_succ]
    refine Nat.le_trans ?_ (fold10_ge t _)
    rw [Nat.mul_comm (10 ^ t.length) 10, ← Nat.mul_assoc]
    exact Nat.mul_le_mul_right _ (by omega)
theorem val_big {l : List UInt8} (h : 2 < (digsF l).length) : 16 < valF (digsF l) := by
  cases l with
  | nil => simp [digsF] at h
  | cons x t =>
    by_cases hx : x = 48
    · rw [digsF, if_pos hx] at h; simp at h
    · have hd := digs_all (x :: t)
      rw [digsF, if_neg hx] at h hd ⊢
      cases hw : (x :: t).takeWhile isDig with
      | nil => rw [hw] at h; simp at h
      | cons y u =>
        rw [hw] at h hd
        have hxy : y = x := by
          by_cases hp : isDig x = true
          · rw [List.takeWhile_cons_of_pos hp] at hw; injection hw with h1 _; exact h1.symm
          · rw [List.takeWhile_cons_of_neg hp] at hw; cases hw
        have hdx := hd y (by simp)
        unfold isDig at hdx
        simp only [Bool.and_eq_true, decide_eq_true_eq] at hdx
        have hne : y.toNat ≠ 48 := fun e => hx (by rw [← hxy]; exact UInt8.toNat_inj.1 e)
        unfold valF
        rw [List.foldl_cons]
        have hg := fold10_ge u (10 * 0 + (y.toNat - 48))
        have hl : 2 ≤ u.length := by simp at h; omega
        have hp : 10 ^ 2 ≤ 10 ^ u.length := Nat.pow_le_pow_right (by decide) hl
        have h1 : 1 * 10 ^ 2 ≤ (10 * 0 + (y.toNat - 48)) * 10 ^ u.length := Nat.mul_le_mul (by omega) hp
        omega
theorem num_big {s : List UInt8} {q : Nat} (h0 : ¬ (digsF (s.drop q)).length = 0) (h : 16 < satF (digsF (s.drop q))) : numP s q = .error (2, q) := by
  by_cases h2 : 2 < (digsF (s.drop q)).length
  · exact num_e2 h2
  · exact num_e3 h0 h2 (by rw [sat_val] at h; omega)
theorem num_small {s : List UInt8} {q : Nat} (h0 : ¬ (digsF (s.drop q)).length = 0) (h : ¬ 16 < satF (digsF (s.drop q))) : numP s q = .ok (satF (digsF (s.drop q)), q + (digsF (s.drop q)).length) := by
  have h3 : ¬ 16 < valF (digsF (s.drop q)) := by rw [sat_val] at h; omega
  rw [num_ok h0 (fun h2 => h3 (val_big h2)) h3, sat_val]
  congr 2; omega
def NOut (s : List UInt8) (q : Nat) (n : Int) (at_ : Nat) (er wh : Int) : Prop := (er = 0 ∧ wh = 0 ∧ ∃ n' : Nat, n = (n' : Int) ∧ numP s q = .ok (n', at_)) ∨ ∃ w : Nat, numP s q = .error (er, w) ∧ wh = (w : Int) ∧ ¬ er = 0 ∧ q ≤ at_ ∧ at_ ≤ s.length ∧ 0 ≤ n ∧ n ≤ 1000


set_option maxHeartbeats 2000000 in
set_option maxRecDepth 10000 in
theorem rnum_0 {G : Ghost} {p : Nat} {s : List UInt8} {q : Nat} {v : Value} (hq : q ≤ s.length) (hl : s.length ≤ 2000000) :
  FnOk Tryz.prog 116 [.pointer (some ⟨p, 0, none⟩)] G [.blk p 61 [.string ⟨s.toArray⟩, .int .i64 (q : Int), v, .int .i64 0, .int .i64 0]] fun r _ H' => ∃ (n : Int) (at_ : Nat) (er wh : Int), H' = [.blk p 61 [.string ⟨s.toArray⟩, .int .i64 (at_ : Int), v, .int .i64 er, .int .i64 wh]] ∧ r = .int .i64 n ∧ NOut s q n at_ er wh := by
 have hsz := bsz s
 have hDl := digs_le (s.drop q)
 rw [List.length_drop] at hDl
 have hsl := sat_le (digsF (s.drop q))
 refine FnOk.of_T [(0, _)] Tryz.func116 rfl Tryz.ntmps116 (by simp) rfl fun w0 hs => ?_
 refine T_seq (T_region rfl ?_)
 refine O_a rfl ?_
 refine O_nil (T_kp [0] rfl ?_)
 refine T_seq (T_region rfl ?_)
 refine O_m rfl ?_
 refine O_y hs (Y_nil rfl ?_)
 refine O_y hs (Y_fieldAddr FO61_1 rfl (m := 1) rfl ?_)
 refine O_y hs (Y_ld 0 Tryz.isAgg3 rfl rfl rfl ?_)
 refine O_a rfl ?_
 refine O_nil (T_kp [0, 3] rfl ?_)
 refine T_seq (T_region rfl ?_)
 refine O_a rfl ?_
 refine O_nil (T_kp [0, 3, 4] rfl ?_)
 refine T_seq (T_block (T_loop (fun m E w => ∃ (k : Nat) (G' : Ghost), k ≤ (digsF (s.drop q)).length ∧ m = (digsF (s.drop q)).length - k ∧ E = ⟨[], [(0, .pointer (some ⟨p, 0, none⟩)), (3, .int .i64 (q : Int)), (4, .int .i64 ((satF ((digsF (s.drop q)).take k)) : Int))]⟩ ∧ St ⟨w0, G, feet [.blk p 61 [.string ⟨s.toArray⟩, .int .i64 (q : Int), v, .int .i64 0, .int .i64 0]]⟩ G' [.blk p 61 [.string ⟨s.toArray⟩, .int .i64 ((q + k : Nat) : Int), v, .int .i64 0, .int .i64 0]] w) (L := [(0, _), (3, _), (4, _)]) ⟨rfl, rfl, rfl, trivial⟩ (⟨0, _, Nat.zero_le _, rfl, rfl, hs⟩) fun m E w hI => ?_))
 obtain ⟨k, G', hk, rfl, rfl, hs⟩ := hI
 have hsk := sat_le ((digsF (s.drop q)).take k)
 refine T_seq (T_seq (T_drawS [0, 1, 2, 3, 4, 5, 6, 7, 8, 9, 10, 11, 12, 13, 14, 15, 16, 17, 18, 19, 20, 21, 22, 23, 24, 25, 26, 27, 28, 29, 30, 31, 32, 33, 34, 35, 36, 37, 38, 39, 40, 41, 42, 43, 44, 45, 46, 47, 48, 49, 50, 51, 52, 53, 54, 55, 56, 57] hs (by kernel_rfl) ?_))
 replace hs := hs.drew
 refine A_take 0 rfl (by kernel_rfl) rfl hs (Y_move rfl ?_)
 refine A_take 1 rfl (by kernel_rfl) rfl hs (Y_nil rfl ?_)
 refine A_take 2 rfl (by kernel_rfl) rfl hs (Y_fieldAddr FO61_3 rfl (m := 3) rfl ?_)
 refine A_take 3 rfl (by kernel_rfl) rfl hs (Y_ld 0 Tryz.isAgg25 rfl rfl rfl ?_)
 refine A_take 4 rfl (by kernel_rfl) rfl hs (Y_cmpT rfl rfl rfl (rfl) ?_)
 refine A_take 5 rfl (by kernel_rfl) rfl hs (Y_move rfl ?_)
 refine A_take 6 rfl (by kernel_rfl) rfl hs (Y_move rfl ?_)
 refine A_take 7 rfl (by kernel_rfl) rfl hs (Y_nil rfl ?_)
 refine A_take 8 rfl (by kernel_rfl) rfl hs (Y_fieldAddr FO61_1 rfl (m := 1) rfl ?_)
 refine A_take 9 rfl (by kernel_rfl) rfl hs (Y_ld 0 Tryz.isAgg3 rfl rfl rfl ?_)
 refine A_take 10 rfl (by kernel_rfl) rfl hs (Y_move rfl ?_)
 refine A_take 11 rfl (by kernel_rfl) rfl hs (Y_nil rfl ?_)
 refine A_take 12 rfl (by kernel_rfl) rfl hs (Y_fieldAddr FO61_0 rfl (m := 0) rfl ?_)
 refine A_take 13 rfl (by kernel_rfl) rfl hs (Y_ld 0 Tryz.isAgg9 rfl rfl rfl ?_)
 refine A_take 14 rfl (by kernel_rfl) rfl hs (Y_lenS Tryz.underlying9 rfl ?_)
 refine A_take 15 rfl (by kernel_rfl) rfl hs (Y_cmpS rfl rfl rfl (fun h24 => ?_) (fun h24 => ?_))
 ·
  dsimp only [cmpP] at h24
  refine A_take 16 rfl (by kernel_rfl) rfl hs (Y_pickT rfl rfl ?_)
  refine A_take 17 rfl (by kernel_rfl) rfl hs (Y_move rfl ?_)
  refine A_take 18 rfl (by kernel_rfl) rfl hs (Y_move rfl ?_)
  refine A_take 19 rfl (by kernel_rfl) rfl hs (Y_nil rfl ?_)
  refine A_take 20 rfl (by kernel_rfl) rfl hs (Y_fieldAddr FO61_0 rfl (m := 0) rfl ?_)
  refine A_take 21 rfl (by kernel_rfl) rfl hs (Y_ld 0 Tryz.isAgg9 rfl rfl rfl ?_)
  refine A_take 22 rfl (by kernel_rfl) rfl hs (Y_move rfl ?_)
  refine A_take 23 rfl (by kernel_rfl) rfl hs (Y_nil rfl ?_)
  refine A_take 24 rfl (by kernel_rfl) rfl hs (Y_fieldAddr FO61_1 rfl (m := 1) rfl ?_)
  refine A_take 25 rfl (by kernel_rfl) rfl hs (Y_ld 0 Tryz.isAgg3 rfl rfl rfl ?_)
  refine A_take 26 rfl (by kernel_rfl) rfl hs (Y_idxStr (b := s[(q + k)]'(by omega)) (q + k) Tryz.underlying9 rfl rfl rfl (str_at (List.getElem?_eq_getElem (by omega))) ?_)
  refine A_take 27 rfl (by kernel_rfl) rfl hs (Y_cmpS rfl rfl rfl (fun h36 => ?_) (fun h36 => ?_))
  ·
   dsimp only [cmpP] at h36
   refine A_take 28 rfl (by kernel_rfl) rfl hs (Y_pickT rfl rfl ?_)
   refine A_take 29 rfl (by kernel_rfl) rfl hs (Y_move rfl ?_)
   refine A_take 30 rfl (by kernel_rfl) rfl hs (Y_move rfl ?_)
   refine A_take 31 rfl (by kernel_rfl) rfl hs (Y_nil rfl ?_)
   refine A_take 32 rfl (by kernel_rfl) rfl hs (Y_fieldAddr FO61_0 rfl (m := 0) rfl ?_)
   refine A_take 33 rfl (by kernel_rfl) rfl hs (Y_ld 0 Tryz.isAgg9 rfl rfl rfl ?_)
   refine A_take 34 rfl (by kernel_rfl) rfl hs (Y_move rfl ?_)
   refine A_take 35 rfl (by kernel_rfl) rfl hs (Y_nil rfl ?_)
   refine A_take 36 rfl (by kernel_rfl) rfl hs (Y_fieldAddr FO61_1 rfl (m := 1) rfl ?_)
   refine A_take 37 rfl (by kernel_rfl) rfl hs (Y_ld 0 Tryz.isAgg3 rfl rfl rfl ?_)
   refine A_take 38 rfl (by kernel_rfl) rfl hs (Y_idxStr (b := s[(q + k)]'(by omega)) (q + k) Tryz.underlying9 rfl rfl rfl (str_at (List.getElem?_eq_getElem (by omega))) ?_)
   refine A_take 39 rfl (by kernel_rfl) rfl hs (Y_cmpS rfl rfl rfl (fun h48 => ?_) (fun h48 => ?_))
   ·
    dsimp only [cmpP] at h48
    refine A_take 40 rfl (by kernel_rfl) rfl hs (Y_pickT rfl rfl ?_)
    refine A_take 41 rfl (by kernel_rfl) rfl hs (Y_move rfl ?_)
    refine A_take 42 rfl (by kernel_rfl) rfl hs (Y_move rfl ?_)
    refine A_take 43 rfl (by kernel_rfl) rfl hs (Y_nil rfl ?_)
    refine A_take 44 rfl (by kernel_rfl) rfl hs (Y_fieldAddr FO61_1 rfl (m := 1) rfl ?_)
    refine A_take 45 rfl (by kernel_rfl) rfl hs (Y_ld 0 Tryz.isAgg3 rfl rfl rfl ?_)
    refine A_take 46 rfl (by kernel_rfl) rfl hs (Y_move rfl ?_)
    refine A_take 47 rfl (by kernel_rfl) rfl hs (Y_cmpS rfl rfl rfl (fun h56 => ?_) (fun h56 => ?_))
    ·
     dsimp only [cmpP] at h56
     refine A_take 48 rfl (by kernel_rfl) rfl hs (Y_move rfl ?_)
     refine A_skip 49 rfl (by kernel_rfl) rfl hs ?_
     refine A_skip 50 rfl (by kernel_rfl) rfl hs ?_
     refine A_skip 51 rfl (by kernel_rfl) rfl hs ?_
     refine A_skip 52 rfl (by kernel_rfl) rfl hs ?_
     refine A_skip 53 rfl (by kernel_rfl) rfl hs ?_
     refine A_skip 54 rfl (by kernel_rfl) rfl hs ?_
     refine A_skip 55 rfl (by kernel_rfl) rfl hs ?_
     refine A_take 56 rfl (by kernel_rfl) rfl hs (Y_pickT rfl rfl ?_)
     refine A_take 57 rfl (by kernel_rfl) rfl hs (Y_pickT rfl rfl ?_)
     refine A_done (by kernel_rfl) (T_kp [0, 3, 4, 66] rfl ?_)
     refine T_condT rfl (T_skip ?_)
     have hpk := peek_at (s := s) (q := q + k) (by omega)
     have hkl := (digs_go hk).2 ⟨by omega, by omega, .inl (by omega)⟩
     have hst : ((satF ((digsF (s.drop q)).take (k + 1)) : Nat) : Int) = min (10 * ((satF ((digsF (s.drop q)).take k)) : Int) + ((s[q + k].toNat : Int) - 48)) 1000 := by rw [sat_snoc hkl, digs_get hkl (by omega)]; omega
     refine T_block (T_seq (T_drawS [0, 1, 2, 3, 4, 5, 6, 7, 8, 9, 10, 11, 12, 13, 14] hs (by kernel_rfl) ?_))
     replace hs := hs.drew
     refine A_take 0 rfl (by kernel_rfl) rfl hs (Y_move rfl ?_)
     refine A_take 1 rfl (by kernel_rfl) rfl hs (Y_mul (c := (10 * ((satF ((digsF (s.drop q)).take k)) : Int))) rfl rfl (by omega) (by omega) ?_)
     refine A_take 2 rfl (by kernel_rfl) rfl hs (Y_move rfl ?_)
     refine A_take 3 rfl (by kernel_rfl) rfl hs (Y_nil rfl ?_)
     refine A_take 4 rfl (by kernel_rfl) rfl hs (Y_fieldAddr FO61_0 rfl (m := 0) rfl ?_)
     refine A_take 5 rfl (by kernel_rfl) rfl hs (Y_ld 0 Tryz.isAgg9 rfl rfl rfl ?_)
     refine A_take 6 rfl (by kernel_rfl) rfl hs (Y_move rfl ?_)
     refine A_take 7 rfl (by kernel_rfl) rfl hs (Y_nil rfl ?_)
     refine A_take 8 rfl (by kernel_rfl) rfl hs (Y_fieldAddr FO61_1 rfl (m := 1) rfl ?_)
     refine A_take 9 rfl (by kernel_rfl) rfl hs (Y_ld 0 Tryz.isAgg3 rfl rfl rfl ?_)
     refine A_take 10 rfl (by kernel_rfl) rfl hs (Y_idxStr (b := s[(q + k)]'(by omega)) (q + k) Tryz.underlying9 rfl rfl rfl (str_at (List.getElem?_eq_getElem (by omega))) ?_)
     refine A_take 11 rfl (by kernel_rfl) rfl hs (Y_subW rfl rfl ?_)
     refine A_take 12 rfl (by kernel_rfl) rfl hs (Y_conv Tryz.underlying5 Tryz.underlying3 (c := ((s[q + k].toNat : Int) - 48)) rfl (by rw [IntKind.wrap_u8, IntKind.wrap_i64]; omega) ?_)
     refine A_take 13 rfl (by kernel_rfl) rfl hs (Y_add (c := (10 * ((satF ((digsF (s.drop q)).take k)) : Int) + ((s[q + k].toNat : Int) - 48))) rfl rfl (by omega) (by omega) ?_)
     refine A_take 14 rfl (by kernel_rfl) rfl hs (Y_min (c := ((satF ((digsF (s.drop q)).take (k + 1)) : Nat) : Int)) rfl rfl (by omega) ?_)
     refine A_tail 15 rfl (by kernel_rfl) (by kernel_rfl) rfl (S_y hs rfl (Y_assign rfl ?_))
     refine A_done (by kernel_rfl) (T_kp [0, 3, 4] rfl ?_)
     refine T_region rfl ?_
     refine O_m rfl ?_
     refine O_y hs (Y_nil rfl ?_)
     refine O_y hs (Y_fieldAddr FO61_1 rfl (m := 1) rfl ?_)
     refine O_y hs (Y_ld 0 Tryz.isAgg3 rfl rfl rfl ?_)
     refine O_y hs (Y_add (c := ((q + k + 1 : Nat) : Int)) rfl rfl (by omega) (by omega) ?_)
     refine O_y hs (Y_nil rfl ?_)
     refine O_y hs (Y_fieldAddr FO61_1 rfl (m := 1) rfl ?_)
     refine O_n (S_st hs Tryz.sizeOf3 rfl rfl rfl (by simp) (cs' := [_, _, _, _, _]) rfl fun _ hs => ?_)
     refine O_nil ⟨_, ?_, [(0, _), (3, _), (4, _)], ⟨rfl, rfl, rfl, trivial⟩, ⟨k + 1, _, by omega, rfl, rfl, hs⟩⟩
     omega
    ·
     dsimp only [cmpP] at h56
     refine A_take 48 rfl (by kernel_rfl) rfl hs (Y_move rfl ?_)
     refine A_take 49 rfl (by kernel_rfl) rfl hs (Y_move rfl ?_)
     refine A_take 50 rfl (by kernel_rfl) rfl hs (Y_nil rfl ?_)
     refine A_take 51 rfl (by kernel_rfl) rfl hs (Y_fieldAddr FO61_0 rfl (m := 0) rfl ?_)
     refine A_take 52 rfl (by kernel_rfl) rfl hs (Y_ld 0 Tryz.isAgg9 rfl rfl rfl ?_)
     refine A_take 53 rfl (by kernel_rfl) rfl hs (Y_move rfl ?_)
     refine A_take 54 rfl (by kernel_rfl) rfl hs (Y_idxStr (b := s[q]'(by omega)) q Tryz.underlying9 rfl rfl rfl (str_at (List.getElem?_eq_getElem (by omega))) ?_)
     refine A_take 55 rfl (by kernel_rfl) rfl hs (Y_cmpS rfl rfl rfl (fun h64 => ?_) (fun h64 => ?_))
     ·
      dsimp only [cmpP] at h64
      refine A_take 56 rfl (by kernel_rfl) rfl hs (Y_pickF rfl rfl ?_)
      refine A_take 57 rfl (by kernel_rfl) rfl hs (Y_pickT rfl rfl ?_)
      refine A_done (by kernel_rfl) (T_kp [0, 3, 4, 66] rfl ?_)
      refine T_condT rfl (T_skip ?_)
      have hpk := peek_at (s := s) (q := q + k) (by omega)
      have hkl := (digs_go hk).2 ⟨by omega, by omega, .inr (fun e => h64 (by rw [List.getElem?_eq_getElem (by omega)] at e; rw [Option.some.inj e]; rfl))⟩
      have hst : ((satF ((digsF (s.drop q)).take (k + 1)) : Nat) : Int) = min (10 * ((satF ((digsF (s.drop q)).take k)) : Int) + ((s[q + k].toNat : Int) - 48)) 1000 := by rw [sat_snoc hkl, digs_get hkl (by omega)]; omega
      refine T_block (T_seq (T_drawS [0, 1, 2, 3, 4, 5, 6, 7, 8, 9, 10, 11, 12, 13, 14] hs (by kernel_rfl) ?_))
      replace hs := hs.drew
      refine A_take 0 rfl (by kernel_rfl) rfl hs (Y_move rfl ?_)
      refine A_take 1 rfl (by kernel_rfl) rfl hs (Y_mul (c := (10 * ((satF ((digsF (s.drop q)).take k)) : Int))) rfl rfl (by omega) (by omega) ?_)
      refine A_take 2 rfl (by kernel_rfl) rfl hs (Y_move rfl ?_)
      refine A_take 3 rfl (by kernel_rfl) rfl hs (Y_nil rfl ?_)
      refine A_take 4 rfl (by kernel_rfl) rfl hs (Y_fieldAddr FO61_0 rfl (m := 0) rfl ?_)
      refine A_take 5 rfl (by kernel_rfl) rfl hs (Y_ld 0 Tryz.isAgg9 rfl rfl rfl ?_)
      refine A_take 6 rfl (by kernel_rfl) rfl hs (Y_move rfl ?_)
      refine A_take 7 rfl (by kernel_rfl) rfl hs (Y_nil rfl ?_)
      refine A_take 8 rfl (by kernel_rfl) rfl hs (Y_fieldAddr FO61_1 rfl (m := 1) rfl ?_)
      refine A_take 9 rfl (by kernel_rfl) rfl hs (Y_ld 0 Tryz.isAgg3 rfl rfl rfl ?_)
      refine A_take 10 rfl (by kernel_rfl) rfl hs (Y_idxStr (b := s[(q + k)]'(by omega)) (q + k) Tryz.underlying9 rfl rfl rfl (str_at (List.getElem?_eq_getElem (by omega))) ?_)
      refine A_take 11 rfl (by kernel_rfl) rfl hs (Y_subW rfl rfl ?_)
      refine A_take 12 rfl (by kernel_rfl) rfl hs (Y_conv Tryz.underlying5 Tryz.underlying3 (c := ((s[q + k].toNat : Int) - 48)) rfl (by rw [IntKind.wrap_u8, IntKind.wrap_i64]; omega) ?_)
      refine A_take 13 rfl (by kernel_rfl) rfl hs (Y_add (c := (10 * ((satF ((digsF (s.drop q)).take k)) : Int) + ((s[q + k].toNat : Int) - 48))) rfl rfl (by omega) (by omega) ?_)
      refine A_take 14 rfl (by kernel_rfl) rfl hs (Y_min (c := ((satF ((digsF (s.drop q)).take (k + 1)) : Nat) : Int)) rfl rfl (by omega) ?_)
      refine A_tail 15 rfl (by kernel_rfl) (by kernel_rfl) rfl (S_y hs rfl (Y_assign rfl ?_))
      refine A_done (by kernel_rfl) (T_kp [0, 3, 4] rfl ?_)
      refine T_region rfl ?_
      refine O_m rfl ?_
      refine O_y hs (Y_nil rfl ?_)
      refine O_y hs (Y_fieldAddr FO61_1 rfl (m := 1) rfl ?_)
      refine O_y hs (Y_ld 0 Tryz.isAgg3 rfl rfl rfl ?_)
      refine O_y hs (Y_add (c := ((q + k + 1 : Nat) : Int)) rfl rfl (by omega) (by omega) ?_)
      refine O_y hs (Y_nil rfl ?_)
      refine O_y hs (Y_fieldAddr FO61_1 rfl (m := 1) rfl ?_)
      refine O_n (S_st hs Tryz.sizeOf3 rfl rfl rfl (by simp) (cs' := [_, _, _, _, _]) rfl fun _ hs => ?_)
      refine O_nil ⟨_, ?_, [(0, _), (3, _), (4, _)], ⟨rfl, rfl, rfl, trivial⟩, ⟨k + 1, _, by omega, rfl, rfl, hs⟩⟩
      omega
     ·
      dsimp only [cmpP] at h64
      refine A_take 56 rfl (by kernel_rfl) rfl hs (Y_pickF rfl rfl ?_)
      refine A_take 57 rfl (by kernel_rfl) rfl hs (Y_pickT rfl rfl ?_)
      refine A_done (by kernel_rfl) (T_kp [0, 3, 4, 66] rfl ?_)
      refine T_condF rfl (T_exit ?_)
      have hpk := peek_at (s := s) (q := q + k) (by omega)
      have hkD : ¬ k < (digsF (s.drop q)).length := fun h => ((digs_go hk).1 h).2.2.elim (by omega) (fun h3 => h3 (by rw [List.getElem?_eq_getElem (by omega)]; exact congrArg some (u8i (b := 48) (by show (s[q].toNat : Int) = 48; omega))))
      obtain rfl : k = (digsF (s.drop q)).length := by omega
      rw [List.take_length]
      refine T_seq (T_seq (T_region rfl ?_))
      refine O_m rfl ?_
      refine O_y hs (Y_nil rfl ?_)
      refine O_y hs (Y_fieldAddr FO61_1 rfl (m := 1) rfl ?_)
      refine O_y hs (Y_ld 0 Tryz.isAgg3 rfl rfl rfl ?_)
      refine O_m rfl ?_
      refine O_y hs (Y_cmpS rfl rfl rfl (fun h94 => ?_) (fun h94 => ?_))
      ·
       dsimp only [cmpP] at h94
       refine O_nil (T_kp [0, 3, 4, 94] rfl ?_)
       refine T_condT rfl (T_region rfl ?_)
       refine O_m rfl ?_
       have hew := unexp_nz s (q + (digsF (s.drop q)).length : Nat)
       refine O_s (S_call (H1 := [_]) hs rfl Tryz.func128 rfl (by kernel_rfl) (wrong_0 (q := (q + (digsF (s.drop q)).length : Nat)) (by omega) hl) fun v1 G' H' _ hR hG96 hs => ?_)
       obtain rfl := hR
       replace hs : St _ _ [_] _ := hs
       refine O_nil (T_kp [0, 3, 4] rfl ?_)
       refine T_seq (T_seq (T_region rfl ?_))
       refine O_m rfl ?_
       refine O_y hs (Y_cmpF rfl rfl rfl (by have := sat_nil (l := (digsF (s.drop q))) (by omega); omega) ?_)
       refine O_nil (T_kp [0, 3, 4, 98] rfl ?_)
       refine T_condF rfl (T_skip ?_)
       refine T_seq (T_region rfl ?_)
       refine O_m rfl ?_
       refine O_a rfl ?_
       refine O_nil (T_kp [2] rfl ?_)
       refine T_ret ?_
       refine Rt_fin (vs := [_]) Tryz.results116 rfl ⟨rfl, trivial⟩ ?_
       try dsimp only [tup]
       exact ⟨_, _, hs, _, _, _, _, rfl, rfl, .inr ⟨(unexp s (q + (digsF (s.drop q)).length)).2, by rw [num_e0 (by omega)]; rw [show q + (digsF (s.drop q)).length = q by omega], rfl, hew, by omega, by omega, by omega, by omega⟩⟩
      ·
       dsimp only [cmpP] at h94
       refine O_nil (T_kp [0, 3, 4, 94] rfl ?_)
       refine T_condF rfl (T_skip ?_)
       refine T_seq (T_seq (T_region rfl ?_))
       refine O_m rfl ?_
       refine O_y hs (Y_cmpS rfl rfl rfl (fun h98 => ?_) (fun h98 => ?_))
       ·
        dsimp only [cmpP] at h98
        refine O_nil (T_kp [0, 3, 4, 98] rfl ?_)
        refine T_condT rfl (T_region rfl ?_)
        refine O_m rfl ?_
        refine O_m rfl ?_
        have hef : ¬ (2 : Int) = 0 := by decide
        refine O_s (S_call (H1 := [_]) hs rfl Tryz.func36 rfl (by kernel_rfl) (fail_0 (q := (q + (digsF (s.drop q)).length : Nat)) (c := 2) (w := (q : Int)) (by omega) hl) fun v2 G' H' _ hR hG101 hs => ?_)
        obtain rfl := hR
        replace hs : St _ _ [_] _ := hs
        refine O_nil (T_kp [4] rfl ?_)
        refine T_seq (T_region rfl ?_)
        refine O_m rfl ?_
        refine O_a rfl ?_
        refine O_nil (T_kp [2] rfl ?_)
        refine T_ret ?_
        refine Rt_fin (vs := [_]) Tryz.results116 rfl ⟨rfl, trivial⟩ ?_
        try dsimp only [tup]
        exact ⟨_, _, hs, _, _, _, _, rfl, rfl, .inr ⟨q, num_big (by omega) (by omega), rfl, hef, by omega, by omega, by omega, by omega⟩⟩
       ·
        dsimp only [cmpP] at h98
        refine O_nil (T_kp [0, 3, 4, 98] rfl ?_)
        refine T_condF rfl (T_skip ?_)
        refine T_seq (T_region rfl ?_)
        refine O_m rfl ?_
        refine O_a rfl ?_
        refine O_nil (T_kp [2] rfl ?_)
        refine T_ret ?_
        refine Rt_fin (vs := [_]) Tryz.results116 rfl ⟨rfl, trivial⟩ ?_
        try dsimp only [tup]
        exact ⟨_, _, hs, _, _, _, _, rfl, rfl, .inl ⟨rfl, rfl, _, rfl, num_small (by omega) (by omega)⟩⟩
   ·
    dsimp only [cmpP] at h48
    refine A_take 40 rfl (by kernel_rfl) rfl hs (Y_pickT rfl rfl ?_)
    refine A_take 41 rfl (by kernel_rfl) rfl hs (Y_move rfl ?_)
    refine A_skip 42 rfl (by kernel_rfl) rfl hs ?_
    refine A_skip 43 rfl (by kernel_rfl) rfl hs ?_
    refine A_skip 44 rfl (by kernel_rfl) rfl hs ?_
    refine A_skip 45 rfl (by kernel_rfl) rfl hs ?_
    refine A_skip 46 rfl (by kernel_rfl) rfl hs ?_
    refine A_skip 47 rfl (by kernel_rfl) rfl hs ?_
    refine A_skip 48 rfl (by kernel_rfl) rfl hs ?_
    refine A_skip 49 rfl (by kernel_rfl) rfl hs ?_
    refine A_skip 50 rfl (by kernel_rfl) rfl hs ?_
    refine A_skip 51 rfl (by kernel_rfl) rfl hs ?_
    refine A_skip 52 rfl (by kernel_rfl) rfl hs ?_
    refine A_skip 53 rfl (by kernel_rfl) rfl hs ?_
    refine A_skip 54 rfl (by kernel_rfl) rfl hs ?_
    refine A_skip 55 rfl (by kernel_rfl) rfl hs ?_
    refine A_skip 56 rfl (by kernel_rfl) rfl hs ?_
    refine A_take 57 rfl (by kernel_rfl) rfl hs (Y_pickF rfl rfl ?_)
    refine A_done (by kernel_rfl) (T_kp [0, 3, 4, 66] rfl ?_)
    refine T_condF rfl (T_exit ?_)
    have hpk := peek_at (s := s) (q := q + k) (by omega)
    have hkD : ¬ k < (digsF (s.drop q)).length := fun h => by have h2 := (digs_go hk).1 h; omega
    obtain rfl : k = (digsF (s.drop q)).length := by omega
    rw [List.take_length]
    refine T_seq (T_seq (T_region rfl ?_))
    refine O_m rfl ?_
    refine O_y hs (Y_nil rfl ?_)
    refine O_y hs (Y_fieldAddr FO61_1 rfl (m := 1) rfl ?_)
    refine O_y hs (Y_ld 0 Tryz.isAgg3 rfl rfl rfl ?_)
    refine O_m rfl ?_
    refine O_y hs (Y_cmpS rfl rfl rfl (fun h94 => ?_) (fun h94 => ?_))
    ·
     dsimp only [cmpP] at h94
     refine O_nil (T_kp [0, 3, 4, 94] rfl ?_)
     refine T_condT rfl (T_region rfl ?_)
     refine O_m rfl ?_
     have hew := unexp_nz s (q + (digsF (s.drop q)).length : Nat)
     refine O_s (S_call (H1 := [_]) hs rfl Tryz.func128 rfl (by kernel_rfl) (wrong_0 (q := (q + (digsF (s.drop q)).length : Nat)) (by omega) hl) fun v3 G' H' _ hR hG96 hs => ?_)
     obtain rfl := hR
     replace hs : St _ _ [_] _ := hs
     refine O_nil (T_kp [0, 3, 4] rfl ?_)
     refine T_seq (T_seq (T_region rfl ?_))
     refine O_m rfl ?_
     refine O_y hs (Y_cmpF rfl rfl rfl (by have := sat_nil (l := (digsF (s.drop q))) (by omega); omega) ?_)
     refine O_nil (T_kp [0, 3, 4, 98] rfl ?_)
     refine T_condF rfl (T_skip ?_)
     refine T_seq (T_region rfl ?_)
     refine O_m rfl ?_
     refine O_a rfl ?_
     refine O_nil (T_kp [2] rfl ?_)
     refine T_ret ?_
     refine Rt_fin (vs := [_]) Tryz.results116 rfl ⟨rfl, trivial⟩ ?_
     try dsimp only [tup]
     exact ⟨_, _, hs, _, _, _, _, rfl, rfl, .inr ⟨(unexp s (q + (digsF (s.drop q)).length)).2, by rw [num_e0 (by omega)]; rw [show q + (digsF (s.drop q)).length = q by omega], rfl, hew, by omega, by omega, by omega, by omega⟩⟩
    ·
     dsimp only [cmpP] at h94
     refine O_nil (T_kp [0, 3, 4, 94] rfl ?_)
     refine T_condF rfl (T_skip ?_)
     refine T_seq (T_seq (T_region rfl ?_))
     refine O_m rfl ?_
     refine O_y hs (Y_cmpS rfl rfl rfl (fun h98 => ?_) (fun h98 => ?_))
     ·
      dsimp only [cmpP] at h98
      refine O_nil (T_kp [0, 3, 4, 98] rfl ?_)
      refine T_condT rfl (T_region rfl ?_)
      refine O_m rfl ?_
      refine O_m rfl ?_
      have hef : ¬ (2 : Int) = 0 := by decide
      refine O_s (S_call (H1 := [_]) hs rfl Tryz.func36 rfl (by kernel_rfl) (fail_0 (q := (q + (digsF (s.drop q)).length : Nat)) (c := 2) (w := (q : Int)) (by omega) hl) fun v4 G' H' _ hR hG101 hs => ?_)
      obtain rfl := hR
      replace hs : St _ _ [_] _ := hs
      refine O_nil (T_kp [4] rfl ?_)
      refine T_seq (T_region rfl ?_)
      refine O_m rfl ?_
      refine O_a rfl ?_
      refine O_nil (T_kp [2] rfl ?_)
      refine T_ret ?_
      refine Rt_fin (vs := [_]) Tryz.results116 rfl ⟨rfl, trivial⟩ ?_
      try dsimp only [tup]
      exact ⟨_, _, hs, _, _, _, _, rfl, rfl, .inr ⟨q, num_big (by omega) (by omega), rfl, hef, by omega, by omega, by omega, by omega⟩⟩
     ·
      dsimp only [cmpP] at h98
      refine O_nil (T_kp [0, 3, 4, 98] rfl ?_)
      refine T_condF rfl (T_skip ?_)
      refine T_seq (T_region rfl ?_)
      refine O_m rfl ?_
      refine O_a rfl ?_
      refine O_nil (T_kp [2] rfl ?_)
      refine T_ret ?_
      refine Rt_fin (vs := [_]) Tryz.results116 rfl ⟨rfl, trivial⟩ ?_
      try dsimp only [tup]
      exact ⟨_, _, hs, _, _, _, _, rfl, rfl, .inl ⟨rfl, rfl, _, rfl, num_small (by omega) (by omega)⟩⟩
  ·
   dsimp only [cmpP] at h36
   refine A_take 28 rfl (by kernel_rfl) rfl hs (Y_pickT rfl rfl ?_)
   refine A_take 29 rfl (by kernel_rfl) rfl hs (Y_move rfl ?_)
   refine A_skip 30 rfl (by kernel_rfl) rfl hs ?_
   refine A_skip 31 rfl (by kernel_rfl) rfl hs ?_
   refine A_skip 32 rfl (by kernel_rfl) rfl hs ?_
   refine A_skip 33 rfl (by kernel_rfl) rfl hs ?_
   refine A_skip 34 rfl (by kernel_rfl) rfl hs ?_
   refine A_skip 35 rfl (by kernel_rfl) rfl hs ?_
   refine A_skip 36 rfl (by kernel_rfl) rfl hs ?_
   refine A_skip 37 rfl (by kernel_rfl) rfl hs ?_
   refine A_skip 38 rfl (by kernel_rfl) rfl hs ?_
   refine A_skip 39 rfl (by kernel_rfl) rfl hs ?_
   refine A_take 40 rfl (by kernel_rfl) rfl hs (Y_pickF rfl rfl ?_)
   refine A_take 41 rfl (by kernel_rfl) rfl hs (Y_move rfl ?_)
   refine A_skip 42 rfl (by kernel_rfl) rfl hs ?_
   refine A_skip 43 rfl (by kernel_rfl) rfl hs ?_
   refine A_skip 44 rfl (by kernel_rfl) rfl hs ?_
   refine A_skip 45 rfl (by kernel_rfl) rfl hs ?_
   refine A_skip 46 rfl (by kernel_rfl) rfl hs ?_
   refine A_skip 47 rfl (by kernel_rfl) rfl hs ?_
   refine A_skip 48 rfl (by kernel_rfl) rfl hs ?_
   refine A_skip 49 rfl (by kernel_rfl) rfl hs ?_
   refine A_skip 50 rfl (by kernel_rfl) rfl hs ?_
   refine A_skip 51 rfl (by kernel_rfl) rfl hs ?_
   refine A_skip 52 rfl (by kernel_rfl) rfl hs ?_
   refine A_skip 53 rfl (by kernel_rfl) rfl hs ?_
   refine A_skip 54 rfl (by kernel_rfl) rfl hs ?_
   refine A_skip 55 rfl (by kernel_rfl) rfl hs ?_
   refine A_skip 56 rfl (by kernel_rfl) rfl hs ?_
   refine A_take 57 rfl (by kernel_rfl) rfl hs (Y_pickF rfl rfl ?_)
   refine A_done (by kernel_rfl) (T_kp [0, 3, 4, 66] rfl ?_)
   refine T_condF rfl (T_exit ?_)
   have hpk := peek_at (s := s) (q := q + k) (by omega)
   have hkD : ¬ k < (digsF (s.drop q)).length := fun h => by have h2 := (digs_go hk).1 h; omega
   obtain rfl : k = (digsF (s.drop q)).length := by omega
   rw [List.take_length]
   refine T_seq (T_seq (T_region rfl ?_))
   refine O_m rfl ?_
   refine O_y hs (Y_nil rfl ?_)
   refine O_y hs (Y_fieldAddr FO61_1 rfl (m := 1) rfl ?_)
   refine O_y hs (Y_ld 0 Tryz.isAgg3 rfl rfl rfl ?_)
   refine O_m rfl ?_
   refine O_y hs (Y_cmpS rfl rfl rfl (fun h94 => ?_) (fun h94 => ?_))
   ·
    dsimp only [cmpP] at h94
    refine O_nil (T_kp [0, 3, 4, 94] rfl ?_)
    refine T_condT rfl (T_region rfl ?_)
    refine O_m rfl ?_
    have hew := unexp_nz s (q + (digsF (s.drop q)).length : Nat)
    refine O_s (S_call (H1 := [_]) hs rfl Tryz.func128 rfl (by kernel_rfl) (wrong_0 (q := (q + (digsF (s.drop q)).length : Nat)) (by omega) hl) fun v5 G' H' _ hR hG96 hs => ?_)
    obtain rfl := hR
    replace hs : St _ _ [_] _ := hs
    refine O_nil (T_kp [0, 3, 4] rfl ?_)
    refine T_seq (T_seq (T_region rfl ?_))
    refine O_m rfl ?_
    refine O_y hs (Y_cmpF rfl rfl rfl (by have := sat_nil (l := (digsF (s.drop q))) (by omega); omega) ?_)
    refine O_nil (T_kp [0, 3, 4, 98] rfl ?_)
    refine T_condF rfl (T_skip ?_)
    refine T_seq (T_region rfl ?_)
    refine O_m rfl ?_
    refine O_a rfl ?_
    refine O_nil (T_kp [2] rfl ?_)
    refine T_ret ?_
    refine Rt_fin (vs := [_]) Tryz.results116 rfl ⟨rfl, trivial⟩ ?_
    try dsimp only [tup]
    exact ⟨_, _, hs, _, _, _, _, rfl, rfl, .inr ⟨(unexp s (q + (digsF (s.drop q)).length)).2, by rw [num_e0 (by omega)]; rw [show q + (digsF (s.drop q)).length = q by omega], rfl, hew, by omega, by omega, by omega, by omega⟩⟩
   ·
    dsimp only [cmpP] at h94
    refine O_nil (T_kp [0, 3, 4, 94] rfl ?_)
    refine T_condF rfl (T_skip ?_)
    refine T_seq (T_seq (T_region rfl ?_))
    refine O_m rfl ?_
    refine O_y hs (Y_cmpS rfl rfl rfl (fun h98 => ?_) (fun h98 => ?_))
    ·
     dsimp only [cmpP] at h98
     refine O_nil (T_kp [0, 3, 4, 98] rfl ?_)
     refine T_condT rfl (T_region rfl ?_)
     refine O_m rfl ?_
     refine O_m rfl ?_
     have hef : ¬ (2 : Int) = 0 := by decide
     refine O_s (S_call (H1 := [_]) hs rfl Tryz.func36 rfl (by kernel_rfl) (fail_0 (q := (q + (digsF (s.drop q)).length : Nat)) (c := 2) (w := (q : Int)) (by omega) hl) fun v6 G' H' _ hR hG101 hs => ?_)
     obtain rfl := hR
     replace hs : St _ _ [_] _ := hs
     refine O_nil (T_kp [4] rfl ?_)
     refine T_seq (T_region rfl ?_)
     refine O_m rfl ?_
     refine O_a rfl ?_
     refine O_nil (T_kp [2] rfl ?_)
     refine T_ret ?_
     refine Rt_fin (vs := [_]) Tryz.results116 rfl ⟨rfl, trivial⟩ ?_
     try dsimp only [tup]
     exact ⟨_, _, hs, _, _, _, _, rfl, rfl, .inr ⟨q, num_big (by omega) (by omega), rfl, hef, by omega, by omega, by omega, by omega⟩⟩
    ·
     dsimp only [cmpP] at h98
     refine O_nil (T_kp [0, 3, 4, 98] rfl ?_)
     refine T_condF rfl (T_skip ?_)
     refine T_seq (T_region rfl ?_)
     refine O_m rfl ?_
     refine O_a rfl ?_
     refine O_nil (T_kp [2] rfl ?_)
     refine T_ret ?_
     refine Rt_fin (vs := [_]) Tryz.results116 rfl ⟨rfl, trivial⟩ ?_
     try dsimp only [tup]
     exact ⟨_, _, hs, _, _, _, _, rfl, rfl, .inl ⟨rfl, rfl, _, rfl, num_small (by omega) (by omega)⟩⟩
 ·
  dsimp only [cmpP] at h24
  refine A_take 16 rfl (by kernel_rfl) rfl hs (Y_pickT rfl rfl ?_)
  refine A_take 17 rfl (by kernel_rfl) rfl hs (Y_move rfl ?_)
  refine A_skip 18 rfl (by kernel_rfl) rfl hs ?_
  refine A_skip 19 rfl (by kernel_rfl) rfl hs ?_
  refine A_skip 20 rfl (by kernel_rfl) rfl hs ?_
  refine A_skip 21 rfl (by kernel_rfl) rfl hs ?_
  refine A_skip 22 rfl (by kernel_rfl) rfl hs ?_
  refine A_skip 23 rfl (by kernel_rfl) rfl hs ?_
  refine A_skip 24 rfl (by kernel_rfl) rfl hs ?_
  refine A_skip 25 rfl (by kernel_rfl) rfl hs ?_
  refine A_skip 26 rfl (by kernel_rfl) rfl hs ?_
  refine A_skip 27 rfl (by kernel_rfl) rfl hs ?_
  refine A_take 28 rfl (by kernel_rfl) rfl hs (Y_pickF rfl rfl ?_)
  refine A_take 29 rfl (by kernel_rfl) rfl hs (Y_move rfl ?_)
  refine A_skip 30 rfl (by kernel_rfl) rfl hs ?_
  refine A_skip 31 rfl (by kernel_rfl) rfl hs ?_
  refine A_skip 32 rfl (by kernel_rfl) rfl hs ?_
  refine A_skip 33 rfl (by kernel_rfl) rfl hs ?_
  refine A_skip 34 rfl (by kernel_rfl) rfl hs ?_
  refine A_skip 35 rfl (by kernel_rfl) rfl hs ?_
  refine A_skip 36 rfl (by kernel_rfl) rfl hs ?_
  refine A_skip 37 rfl (by kernel_rfl) rfl hs ?_
  refine A_skip 38 rfl (by kernel_rfl) rfl hs ?_
  refine A_skip 39 rfl (by kernel_rfl) rfl hs ?_
  refine A_take 40 rfl (by kernel_rfl) rfl hs (Y_pickF rfl rfl ?_)
  refine A_take 41 rfl (by kernel_rfl) rfl hs (Y_move rfl ?_)
  refine A_skip 42 rfl (by kernel_rfl) rfl hs ?_
  refine A_skip 43 rfl (by kernel_rfl) rfl hs ?_
  refine A_skip 44 rfl (by kernel_rfl) rfl hs ?_
  refine A_skip 45 rfl (by kernel_rfl) rfl hs ?_
  refine A_skip 46 rfl (by kernel_rfl) rfl hs ?_
  refine A_skip 47 rfl (by kernel_rfl) rfl hs ?_
  refine A_skip 48 rfl (by kernel_rfl) rfl hs ?_
  refine A_skip 49 rfl (by kernel_rfl) rfl hs ?_
  refine A_skip 50 rfl (by kernel_rfl) rfl hs ?_
  refine A_skip 51 rfl (by kernel_rfl) rfl hs ?_
  refine A_skip 52 rfl (by kernel_rfl) rfl hs ?_
  refine A_skip 53 rfl (by kernel_rfl) rfl hs ?_
  refine A_skip 54 rfl (by kernel_rfl) rfl hs ?_
  refine A_skip 55 rfl (by kernel_rfl) rfl hs ?_
  refine A_skip 56 rfl (by kernel_rfl) rfl hs ?_
  refine A_take 57 rfl (by kernel_rfl) rfl hs (Y_pickF rfl rfl ?_)
  refine A_done (by kernel_rfl) (T_kp [0, 3, 4, 66] rfl ?_)
  refine T_condF rfl (T_exit ?_)
  have hpk := peek_end (s := s) (q := q + k) (by omega)
  have hkD : ¬ k < (digsF (s.drop q)).length := fun h => by have h2 := (digs_go hk).1 h; omega
  obtain rfl : k = (digsF (s.drop q)).length := by omega
  rw [List.take_length]
  refine T_seq (T_seq (T_region rfl ?_))
  refine O_m rfl ?_
  refine O_y hs (Y_nil rfl ?_)
  refine O_y hs (Y_fieldAddr FO61_1 rfl (m := 1) rfl ?_)
  refine O_y hs (Y_ld 0 Tryz.isAgg3 rfl rfl rfl ?_)
  refine O_m rfl ?_
  refine O_y hs (Y_cmpS rfl rfl rfl (fun h94 => ?_) (fun h94 => ?_))
  ·
   dsimp only [cmpP] at h94
   refine O_nil (T_kp [0, 3, 4, 94] rfl ?_)
   refine T_condT rfl (T_region rfl ?_)
   refine O_m rfl ?_
   have hew := unexp_nz s (q + (digsF (s.drop q)).length : Nat)
   refine O_s (S_call (H1 := [_]) hs rfl Tryz.func128 rfl (by kernel_rfl) (wrong_0 (q := (q + (digsF (s.drop q)).length : Nat)) (by omega) hl) fun v7 G' H' _ hR hG96 hs => ?_)
   obtain rfl := hR
   replace hs : St _ _ [_] _ := hs
   refine O_nil (T_kp [0, 3, 4] rfl ?_)
   refine T_seq (T_seq (T_region rfl ?_))
   refine O_m rfl ?_
   refine O_y hs (Y_cmpF rfl rfl rfl (by have := sat_nil (l := (digsF (s.drop q))) (by omega); omega) ?_)
   refine O_nil (T_kp [0, 3, 4, 98] rfl ?_)
   refine T_condF rfl (T_skip ?_)
   refine T_seq (T_region rfl ?_)
   refine O_m rfl ?_
   refine O_a rfl ?_
   refine O_nil (T_kp [2] rfl ?_)
   refine T_ret ?_
   refine Rt_fin (vs := [_]) Tryz.results116 rfl ⟨rfl, trivial⟩ ?_
   try dsimp only [tup]
   exact ⟨_, _, hs, _, _, _, _, rfl, rfl, .inr ⟨(unexp s (q + (digsF (s.drop q)).length)).2, by rw [num_e0 (by omega)]; rw [show q + (digsF (s.drop q)).length = q by omega], rfl, hew, by omega, by omega, by omega, by omega⟩⟩
  ·
   dsimp only [cmpP] at h94
   refine O_nil (T_kp [0, 3, 4, 94] rfl ?_)
   refine T_condF rfl (T_skip ?_)
   refine T_seq (T_seq (T_region rfl ?_))
   refine O_m rfl ?_
   refine O_y hs (Y_cmpS rfl rfl rfl (fun h98 => ?_) (fun h98 => ?_))
   ·
    dsimp only [cmpP] at h98
    refine O_nil (T_kp [0, 3, 4, 98] rfl ?_)
    refine T_condT rfl (T_region rfl ?_)
    refine O_m rfl ?_
    refine O_m rfl ?_
    have hef : ¬ (2 : Int) = 0 := by decide
    refine O_s (S_call (H1 := [_]) hs rfl Tryz.func36 rfl (by kernel_rfl) (fail_0 (q := (q + (digsF (s.drop q)).length : Nat)) (c := 2) (w := (q : Int)) (by omega) hl) fun v8 G' H' _ hR hG101 hs => ?_)
    obtain rfl := hR
    replace hs : St _ _ [_] _ := hs
    refine O_nil (T_kp [4] rfl ?_)
    refine T_seq (T_region rfl ?_)
    refine O_m rfl ?_
    refine O_a rfl ?_
    refine O_nil (T_kp [2] rfl ?_)
    refine T_ret ?_
    refine Rt_fin (vs := [_]) Tryz.results116 rfl ⟨rfl, trivial⟩ ?_
    try dsimp only [tup]
    exact ⟨_, _, hs, _, _, _, _, rfl, rfl, .inr ⟨q, num_big (by omega) (by omega), rfl, hef, by omega, by omega, by omega, by omega⟩⟩
   ·
    dsimp only [cmpP] at h98
    refine O_nil (T_kp [0, 3, 4, 98] rfl ?_)
    refine T_condF rfl (T_skip ?_)
    refine T_seq (T_region rfl ?_)
    refine O_m rfl ?_
    refine O_a rfl ?_
    refine O_nil (T_kp [2] rfl ?_)
    refine T_ret ?_
    refine Rt_fin (vs := [_]) Tryz.results116 rfl ⟨rfl, trivial⟩ ?_
    try dsimp only [tup]
    exact ⟨_, _, hs, _, _, _, _, rfl, rfl, .inl ⟨rfl, rfl, _, rfl, num_small (by omega) (by omega)⟩⟩

set_option maxHeartbeats 400000 in
set_option maxRecDepth 10000 in
theorem rnum_e {G : Ghost} {p : Nat} {s : List UInt8} {q : Nat} {v : Value} {er wh : Int} (hq : q ≤ s.length) (hl : s.length ≤ 2000000) (he : ¬ er = 0) :
  FnOk Tryz.prog 116 [.pointer (some ⟨p, 0, none⟩)] G [.blk p 61 [.string ⟨s.toArray⟩, .int .i64 (q : Int), v, .int .i64 er, .int .i64 wh]] fun r _ H' => H' = [.blk p 61 [.string ⟨s.toArray⟩, .int .i64 (q : Int), v, .int .i64 er, .int .i64 wh]] ∧ r = .int .i64 0 := by
 have hsz := bsz s
 refine FnOk.of_T [(0, _)] Tryz.func116 rfl Tryz.ntmps116 (by simp) rfl fun w0 hs => ?_
 refine T_seq (T_region rfl ?_)
 refine O_a rfl ?_
 refine O_nil (T_kp [0] rfl ?_)
 refine T_seq (T_region rfl ?_)
 refine O_m rfl ?_
 refine O_y hs (Y_nil rfl ?_)
 refine O_y hs (Y_fieldAddr FO61_1 rfl (m := 1) rfl ?_)
 refine O_y hs (Y_ld 0 Tryz.isAgg3 rfl rfl rfl ?_)
 refine O_a rfl ?_
 refine O_nil (T_kp [0, 3] rfl ?_)
 refine T_seq (T_region rfl ?_)
 refine O_a rfl ?_
 refine O_nil (T_kp [0, 3, 4] rfl ?_)
 refine T_seq (T_block (T_loopN 1 (L := [(0, _), (3, _), (4, _)]) ⟨rfl, rfl, rfl, trivial⟩ (U_go ?_)))
 refine T_seq (T_seq (T_drawS [0, 1, 2, 3, 4, 5, 6, 7, 8, 9, 10, 11, 12, 13, 14, 15, 16, 17, 18, 19, 20, 21, 22, 23, 24, 25, 26, 27, 28, 29, 30, 31, 32, 33, 34, 35, 36, 37, 38, 39, 40, 41, 42, 43, 44, 45, 46, 47, 48, 49, 50, 51, 52, 53, 54, 55, 56, 57] hs (by kernel_rfl) ?_))
 replace hs := hs.drew
 refine A_take 0 rfl (by kernel_rfl) rfl hs (Y_move rfl ?_)
 refine A_take 1 rfl (by kernel_rfl) rfl hs (Y_nil rfl ?_)
 refine A_take 2 rfl (by kernel_rfl) rfl hs (Y_fieldAddr FO61_3 rfl (m := 3) rfl ?_)
 refine A_take 3 rfl (by kernel_rfl) rfl hs (Y_ld 0 Tryz.isAgg25 rfl rfl rfl ?_)
 refine A_take 4 rfl (by kernel_rfl) rfl hs (Y_cmpF rfl rfl rfl (he) ?_)
 refine A_take 5 rfl (by kernel_rfl) rfl hs (Y_move rfl ?_)
 refine A_skip 6 rfl (by kernel_rfl) rfl hs ?_
 refine A_skip 7 rfl (by kernel_rfl) rfl hs ?_
 refine A_skip 8 rfl (by kernel_rfl) rfl hs ?_
 refine A_skip 9 rfl (by kernel_rfl) rfl hs ?_
 refine A_skip 10 rfl (by kernel_rfl) rfl hs ?_
 refine A_skip 11 rfl (by kernel_rfl) rfl hs ?_
 refine A_skip 12 rfl (by kernel_rfl) rfl hs ?_
 refine A_skip 13 rfl (by kernel_rfl) rfl hs ?_
 refine A_skip 14 rfl (by kernel_rfl) rfl hs ?_
 refine A_skip 15 rfl (by kernel_rfl) rfl hs ?_
 refine A_take 16 rfl (by kernel_rfl) rfl hs (Y_pickF rfl rfl ?_)
 refine A_take 17 rfl (by kernel_rfl) rfl hs (Y_move rfl ?_)
 refine A_skip 18 rfl (by kernel_rfl) rfl hs ?_
 refine A_skip 19 rfl (by kernel_rfl) rfl hs ?_
 refine A_skip 20 rfl (by kernel_rfl) rfl hs ?_
 refine A_skip 21 rfl (by kernel_rfl) rfl hs ?_
 refine A_skip 22 rfl (by kernel_rfl) rfl hs ?_
 refine A_skip 23 rfl (by kernel_rfl) rfl hs ?_
 refine A_skip 24 rfl (by kernel_rfl) rfl hs ?_
 refine A_skip 25 rfl (by kernel_rfl) rfl hs ?_
 refine A_skip 26 rfl (by kernel_rfl) rfl hs ?_
 refine A_skip 27 rfl (by kernel_rfl) rfl hs ?_
 refine A_take 28 rfl (by kernel_rfl) rfl hs (Y_pickF rfl rfl ?_)
 refine A_take 29 rfl (by kernel_rfl) rfl hs (Y_move rfl ?_)
 refine A_skip 30 rfl (by kernel_rfl) rfl hs ?_
 refine A_skip 31 rfl (by kernel_rfl) rfl hs ?_
 refine A_skip 32 rfl (by kernel_rfl) rfl hs ?_
 refine A_skip 33 rfl (by kernel_rfl) rfl hs ?_
 refine A_skip 34 rfl (by kernel_rfl) rfl hs ?_
 refine A_skip 35 rfl (by kernel_rfl) rfl hs ?_
 refine A_skip 36 rfl (by kernel_rfl) rfl hs ?_
 refine A_skip 37 rfl (by kernel_rfl) rfl hs ?_
 refine A_skip 38 rfl (by kernel_rfl) rfl hs ?_
 refine A_skip 39 rfl (by kernel_rfl) rfl hs ?_
 refine A_take 40 rfl (by kernel_rfl) rfl hs (Y_pickF rfl rfl ?_)
 refine A_take 41 rfl (by kernel_rfl) rfl hs (Y_move rfl ?_)
 refine A_skip 42 rfl (by kernel_rfl) rfl hs ?_
 refine A_skip 43 rfl (by kernel_rfl) rfl hs ?_
 refine A_skip 44 rfl (by kernel_rfl) rfl hs ?_
 refine A_skip 45 rfl (by kernel_rfl) rfl hs ?_
 refine A_skip 46 rfl (by kernel_rfl) rfl hs ?_
 refine A_skip 47 rfl (by kernel_rfl) rfl hs ?_
 refine A_skip 48 rfl (by kernel_rfl) rfl hs ?_
 refine A_skip 49 rfl (by kernel_rfl) rfl hs ?_
 refine A_skip 50 rfl (by kernel_rfl) rfl hs ?_
 refine A_skip 51 rfl (by kernel_rfl) rfl hs ?_
 refine A_skip 52 rfl (by kernel_rfl) rfl hs ?_
 refine A_skip 53 rfl (by kernel_rfl) rfl hs ?_
 refine A_skip 54 rfl (by kernel_rfl) rfl hs ?_
 refine A_skip 55 rfl (by kernel_rfl) rfl hs ?_
 refine A_skip 56 rfl (by kernel_rfl) rfl hs ?_
 refine A_take 57 rfl (by kernel_rfl) rfl hs (Y_pickF rfl rfl ?_)
 refine A_done (by kernel_rfl) (T_kp [0, 3, 4, 66] rfl ?_)
 refine T_condF rfl (T_exit ?_)
 refine T_seq (T_seq (T_region rfl ?_))
 refine O_m rfl ?_
 refine O_y hs (Y_nil rfl ?_)
 refine O_y hs (Y_fieldAddr FO61_1 rfl (m := 1) rfl ?_)
 refine O_y hs (Y_ld 0 Tryz.isAgg3 rfl rfl rfl ?_)
 refine O_m rfl ?_
 refine O_y hs (Y_cmpT rfl rfl rfl (rfl) ?_)
 refine O_nil (T_kp [0, 3, 4, 94] rfl ?_)
 refine T_condT rfl (T_region rfl ?_)
 refine O_m rfl ?_
 refine O_s (S_call (H1 := [_]) hs rfl Tryz.func128 rfl (by kernel_rfl) (wrong_e (q := q) (by omega) hl he) fun v1 G' H' _ hR hG96 hs => ?_)
 obtain rfl := hR
 replace hs : St _ _ [_] _ := hs
 refine O_nil (T_kp [0, 3, 4] rfl ?_)
 refine T_seq (T_seq (T_region rfl ?_))
 refine O_m rfl ?_
 refine O_y hs (Y_cmpF rfl rfl rfl (by decide) ?_)
 refine O_nil (T_kp [0, 3, 4, 98] rfl ?_)
 refine T_condF rfl (T_skip ?_)
 refine T_seq (T_region rfl ?_)
 refine O_m rfl ?_
 refine O_a rfl ?_
 refine O_nil (T_kp [2] rfl ?_)
 refine T_ret ?_
 refine Rt_fin (vs := [_]) Tryz.results116 rfl ⟨rfl, trivial⟩ ?_
 try dsimp only [tup]
 exact ⟨_, _, hs, rfl, rfl⟩

end Go.Proofs.YtkmgbcjfidpmgaaGreatDoor
