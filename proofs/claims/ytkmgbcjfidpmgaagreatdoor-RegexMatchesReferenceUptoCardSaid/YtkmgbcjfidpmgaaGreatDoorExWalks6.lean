import Derived.Test.YtkmgbcjfidpmgaaGreatDoorExWalks5
import Derived.Test.YtkmgbcjfidpmgaaGreatDoorProg
import Derived.Test.YtkmgbcjfidpmgaaGreatDoorSame
import Derived.Test.YtkmgbcjfidpmgaaGreatDoorExThin
import Derived.Test.YtkmgbcjfidpmgaaGreatDoorShelf
namespace Go.Proofs.YtkmgbcjfidpmgaaGreatDoor
open Go Go.Ex Go.RowKit
theorem FO74_0 : fieldOff Tryz.prog 74 0 = some 0 := by kernel_rfl
theorem FO74_1 : fieldOff Tryz.prog 74 1 = some 1 := by kernel_rfl
theorem FO74_2 : fieldOff Tryz.prog 74 2 = some 2 := by kernel_rfl
theorem PL74 : places Tryz.prog 74 = some [(0, 1), (1, 1), (2, 1)] := by kernel_rfl
theorem PL99 : places Tryz.prog 99 = some [(0, 1), (1, 1)] := by kernel_rfl
theorem TI4 : TI Tryz.prog 4 (.bool false) 1 1 := TI.of (by kernel_rfl)

theorem key2 : Key2 Tryz.prog 99 where
  fs := ⟨_, _, Tryz.underlying99, by decide, by decide, rfl, rfl, Tryz.underlying3, Tryz.underlying3, Tryz.isAgg3, Tryz.isAgg3⟩
  held := by kernel_rfl
def EndsC (l : List NodeV) (b : List UInt8) (i : Nat) : Prop := ∀ (G : Ghost) (p mb clk : Nat) (nv wv : Value) (es : List MapEntry) (f : Nat), Rx G nv l → Bytes G wv b → Memo l b G es → f ≤ b.length →
  FnOk Tryz.prog 42 [.pointer (some ⟨p, 0, none⟩), .int .i64 (i : Int), .int .i64 (f : Int)] G [.blk p 74 [nv, wv, .map (some mb)], .obj mb (.map (List.toArray es) clk)] fun r G' H' => ∃ es' clk', H' = [.blk p 74 [nv, wv, .map (some mb)], .obj mb (.map (List.toArray es') clk')] ∧ Memo l b G' es' ∧ Ext (i + 1) es es' ∧ Bools G' r (endsN l b i f)


set_option maxHeartbeats 1000000 in
set_option maxRecDepth 10000 in
theorem aft1 {G : Ghost} {p mb clk i : Nat} {nv wv sv : Value} {l : List NodeV} {b : List UInt8} {es : List MapEntry} {S : List Bool} (hE : EndsC l b i) (hx : Rx G nv l) (hw : Bytes G wv b) (hM : Memo l b G es) (hSl : S.length = b.length + 1) (hbl : b.length ≤ 2000000) (hS : Bools G sv S) :
  FnOk Tryz.prog 82 [.pointer (some ⟨p, 0, none⟩), .int .i64 (i : Int), sv] G [.blk p 74 [nv, wv, .map (some mb)], .obj mb (.map (List.toArray es) clk)] fun r G' H' => ∃ es' clk' rb, H' = [.blk p 74 [nv, wv, .map (some mb)], .obj mb (.map (List.toArray es') clk'), .row 4 1 (.slice (some ⟨rb, 0, none⟩) S.length S.length) S.length (List.map boolV (afterB b.length (endsN l b i) S))] ∧ r = .slice (some ⟨rb, 0, none⟩) S.length S.length ∧ Memo l b G' es' ∧ Ext (i + 1) es es' := by
 obtain ⟨As, cs, rfl⟩ := hS.form
 refine FnOk.of_T [(0, _), (1, _), (2, _)] Tryz.func82 rfl Tryz.ntmps82 (by simp) rfl fun w0 hs => ?_
 have hx0 := hx
 have hw0 := hw
 have hS0 := hS
 refine T_seq (T_region rfl ?_)
 refine O_a rfl ?_
 refine O_nil (T_kp [0, 1, 2] rfl ?_)
 refine T_seq (T_region rfl ?_)
 refine O_m rfl ?_
 refine O_y hs (Y_len Tryz.underlying75 rfl ?_)
 refine O_s (S_make (n := S.length) (m := S.length) hs Tryz.underlying75 TI4 rfl rfl rfl (by omega) (by omega) (by omega) fun b14 _ hs => ?_)
 refine O_a rfl ?_
 refine O_nil (T_kp [0, 1, 2, 7] rfl ?_)
 refine T_seq (T_seq (T_region rfl ?_))
 refine O_m rfl ?_
 refine O_y hs (Y_len Tryz.underlying75 rfl ?_)
 refine O_m rfl ?_
 refine O_nil (T_kp [0, 1, 7, 15, 16, 17] rfl ?_)
 refine T_block (T_loop (fun m E w => ∃ (k : Nat) (acc : List Bool) (es2 : List MapEntry) (clk2 : Nat) (G' : Ghost), k ≤ S.length ∧ acc.length = S.length ∧ afterG (endsN l b i) 0 S (List.replicate (b.length + 1) false) = afterG (endsN l b i) k (S.drop k) acc ∧ Memo l b G' es2 ∧ Ext (i + 1) es es2 ∧ m = S.length - k ∧ E = ⟨[], [(0, .pointer (some ⟨p, 0, none⟩)), (1, .int .i64 (i : Int)), (7, .slice (some ⟨b14, 0, none⟩) S.length S.length), (15, .slice As S.length cs), (16, .int .i64 ((S.length : Nat) : Int)), (17, .int .i64 (k : Int))]⟩ ∧ St ⟨w0, G, feet [.blk p 74 [nv, wv, .map (some mb)], .obj mb (.map (List.toArray es) clk)]⟩ G' [.row 4 1 (.slice (some ⟨b14, 0, none⟩) S.length S.length) S.length (List.map boolV acc), .blk p 74 [nv, wv, .map (some mb)], .obj mb (.map (List.toArray es2) clk2)] w) (L := [(0, _), (1, _), (7, _), (15, _), (16, _), (17, _)]) ⟨rfl, rfl, rfl, rfl, rfl, rfl, trivial⟩ (⟨0, _, es, clk, _, by omega, by rw [List.length_replicate, hSl], rfl, hM, Ext.refl _ _, rfl, rfl, by rw [List.map_replicate, ← hSl]; exact hs⟩) fun m E w hI => ?_)
 obtain ⟨k, acc, es2, clk2, G', hk, hacl, hag, hM2, hX2, rfl, rfl, hs⟩ := hI
 have hx := hx0.mono hs.le
 have hw := hw0.mono hs.le
 have hS := hS0.mono hs.le
 refine T_seq (T_region rfl ?_)
 refine O_y hs (Y_cmpS rfl rfl rfl (fun h18 => ?_) (fun h18 => ?_))
 ·
  dsimp only [cmpP] at h18
  refine O_nil (T_kp [0, 1, 7, 15, 16, 17, 18] rfl ?_)
  refine T_seq (T_condT rfl (T_skip ?_))
  refine T_seq (T_block (T_seq (T_region rfl ?_)))
  refine O_m rfl ?_
  refine O_y hs (Y_idx1 k Tryz.underlying75 Tryz.sizeOf4 hS rfl rfl rfl (bool_row (by omega)) fun p20 hp20 => ?_)
  refine O_y hs (Y_ldG Tryz.isAgg4 rfl (hp20) ?_)
  refine O_a rfl ?_
  refine O_a rfl ?_
  refine O_nil (T_kp [0, 1, 7, 8, 9, 15, 16, 17] rfl ?_)
  refine T_seq (T_region rfl ?_)
  refine O_m rfl ?_
  refine O_nil (T_kp [0, 1, 7, 8, 15, 16, 17, 22] rfl ?_)
  refine T_condS rfl (fun hS22 => ?_) (fun hS22 => ?_)
  ·
   refine T_seq (T_region rfl ?_)
   refine O_m rfl ?_
   refine O_m rfl ?_
   refine O_m rfl ?_
   have hs := hs.f2
   have hs := hs.f2
   refine O_s (S_call (H1 := [_, _]) hs rfl Tryz.func42 rfl (by kernel_rfl) (hE _ p mb _ _ _ _ k hx hw hM2 (by omega)) fun v1 G' H' _ hR hG26 hs => ?_)
   obtain ⟨es3, clk3, rfl, hM3, hX3, hEv⟩ := hR
   replace hs : St _ _ [_, _, _] _ := hs
   replace hx := hx.mono hG26
   replace hw := hw.mono hG26
   replace hS := hS.mono hG26
   have hfm := hEv.form
   obtain ⟨A26, c26, rfl⟩ := hfm
   have hel := endsN_len l b i k
   refine O_y hs (Y_len Tryz.underlying75 rfl ?_)
   refine O_m rfl ?_
   refine O_nil (T_kp [0, 1, 7, 15, 16, 17, 26, 27, 28] rfl ?_)
   have hs := hs.f1
   have hs := hs.f1
   have hs := hs.f2
   refine T_block (T_loop (fun m E w => ∃ (j : Nat) (G' : Ghost), j ≤ S.length ∧ Memo l b G' es3 ∧ Bools G' (.slice A26 (endsN l b i k).length c26) (endsN l b i k) ∧ m = S.length - j ∧ E = ⟨[], [(0, .pointer (some ⟨p, 0, none⟩)), (1, .int .i64 (i : Int)), (7, .slice (some ⟨b14, 0, none⟩) S.length S.length), (15, .slice As S.length cs), (16, .int .i64 ((S.length : Nat) : Int)), (17, .int .i64 (k : Int)), (26, .slice A26 (endsN l b i k).length c26), (27, .int .i64 (((endsN l b i k).length : Nat) : Int)), (28, .int .i64 (j : Int))]⟩ ∧ St ⟨w0, G, feet [.blk p 74 [nv, wv, .map (some mb)], .obj mb (.map (List.toArray es) clk)]⟩ G' [.row 4 1 (.slice (some ⟨b14, 0, none⟩) S.length S.length) S.length (List.map boolV (mixL acc (endsN l b i k) j)), .blk p 74 [nv, wv, .map (some mb)], .obj mb (.map (List.toArray es3) clk3)] w) (L := [(0, _), (1, _), (7, _), (15, _), (16, _), (17, _), (26, _), (27, _), (28, _)]) ⟨rfl, rfl, rfl, rfl, rfl, rfl, rfl, rfl, rfl, trivial⟩ (⟨0, _, by omega, hM3, hEv, rfl, rfl, hs⟩) fun m E w hI => ?_)
   obtain ⟨j, G', hj, hM3, hEv, rfl, rfl, hs⟩ := hI
   have hx := hx0.mono hs.le
   have hw := hw0.mono hs.le
   have hS := hS0.mono hs.le
   refine T_seq (T_region rfl ?_)
   refine O_y hs (Y_cmpS rfl rfl rfl (fun h29 => ?_) (fun h29 => ?_))
   ·
    dsimp only [cmpP] at h29
    refine O_nil (T_kp [0, 1, 7, 15, 16, 17, 26, 27, 28, 29] rfl ?_)
    refine T_seq (T_condT rfl (T_skip ?_))
    refine T_seq (T_block (T_seq (T_region rfl ?_)))
    refine O_m rfl ?_
    refine O_y hs (Y_idx1 j Tryz.underlying75 Tryz.sizeOf4 hEv rfl rfl rfl (bool_row (by omega)) fun p31 hp31 => ?_)
    refine O_y hs (Y_ldG Tryz.isAgg4 rfl (hp31) ?_)
    refine O_a rfl ?_
    refine O_a rfl ?_
    refine O_nil (T_kp [0, 1, 7, 10, 11, 15, 16, 17, 26, 27, 28] rfl ?_)
    refine T_region rfl ?_
    refine O_m rfl ?_
    refine O_m rfl ?_
    refine O_m rfl ?_
    refine O_m rfl ?_
    refine O_y hs (Y_idxRow (j) Tryz.underlying75 Tryz.sizeOf4 rfl rfl rfl (by omega) ?_)
    refine O_y hs (Y_ldRow 0 rfl Tryz.isAgg4 rfl (mix_row (by omega) (by omega)) ?_)
    cases h39 : acc[j]'(by omega)
    ·
     refine O_m rfl ?_
     refine O_yy 39 hs rfl rfl (Y_move rfl ?_)
     refine O_y hs (Y_pickF rfl rfl ?_)
     refine O_y hs (Y_idxRow (j) Tryz.underlying75 Tryz.sizeOf4 rfl rfl rfl (by omega) ?_)
     refine O_n (S_stRow hs Tryz.sizeOf4 rfl rfl rfl (by omega) fun _ hs => ?_)
     refine O_nil (T_kp [0, 1, 7, 15, 16, 17, 26, 27, 28] rfl ?_)
     refine T_region rfl ?_
     refine O_y hs (Y_add (c := ((j + 1 : Nat) : Int)) rfl rfl (by omega) (by omega) ?_)
     refine O_m rfl ?_
     refine O_nil ⟨_, ?_, [(0, _), (1, _), (7, _), (15, _), (16, _), (17, _), (26, _), (27, _), (28, _)], ⟨rfl, rfl, rfl, rfl, rfl, rfl, rfl, rfl, rfl, trivial⟩, ⟨j + 1, _, by omega, hM3, hEv, rfl, rfl, by rw [← mix_set (show acc.length = (endsN l b i k).length by omega) (show j < acc.length by omega) (x := (endsN l b i k)[j]'(by omega)) (by rw [h39]; rfl)]; exact hs⟩⟩
     omega
    ·
     refine O_m rfl ?_
     refine O_no 39 rfl rfl ?_
     refine O_y hs (Y_pickT rfl rfl ?_)
     refine O_y hs (Y_idxRow (j) Tryz.underlying75 Tryz.sizeOf4 rfl rfl rfl (by omega) ?_)
     refine O_n (S_stRow hs Tryz.sizeOf4 rfl rfl rfl (by omega) fun _ hs => ?_)
     refine O_nil (T_kp [0, 1, 7, 15, 16, 17, 26, 27, 28] rfl ?_)
     refine T_region rfl ?_
     refine O_y hs (Y_add (c := ((j + 1 : Nat) : Int)) rfl rfl (by omega) (by omega) ?_)
     refine O_m rfl ?_
     refine O_nil ⟨_, ?_, [(0, _), (1, _), (7, _), (15, _), (16, _), (17, _), (26, _), (27, _), (28, _)], ⟨rfl, rfl, rfl, rfl, rfl, rfl, rfl, rfl, rfl, trivial⟩, ⟨j + 1, _, by omega, hM3, hEv, rfl, rfl, by rw [← mix_set (show acc.length = (endsN l b i k).length by omega) (show j < acc.length by omega) (x := true) (by rw [h39]; rfl)]; exact hs⟩⟩
     omega
   ·
    dsimp only [cmpP] at h29
    refine O_nil (T_kp [0, 1, 7, 15, 16, 17, 26, 27, 28, 29] rfl ?_)
    refine T_seq (T_condF rfl (T_exit ?_))
    refine T_region rfl ?_
    refine O_y hs (Y_add (c := ((k + 1 : Nat) : Int)) rfl rfl (by omega) (by omega) ?_)
    refine O_m rfl ?_
    have hs := hs.f2
    have hs := hs.f2
    have hs := hs.f2
    obtain rfl : j = S.length := by omega
    have hma : mixL acc (endsN l b i k) S.length = orL acc (endsN l b i k) := by rw [← hacl]; exact mix_all (by omega)
    rw [hma] at hs
    refine O_nil ⟨_, ?_, [(0, _), (1, _), (7, _), (15, _), (16, _), (17, _)], ⟨rfl, rfl, rfl, rfl, rfl, rfl, trivial⟩, ⟨k + 1, orL acc (endsN l b i k), es3, clk3, _, by omega, by rw [orL_len _ _ (by omega)]; exact hacl, by rw [hag, afterG_step (by omega), if_pos hS22], hM3, hX2.trans hX3, rfl, rfl, hs.weak hs.le (Ghost.le.refl _) (List.sublist_append_left [_, _, _] _)⟩⟩
    omega
  ·
   refine T_skip ?_
   refine T_region rfl ?_
   refine O_y hs (Y_add (c := ((k + 1 : Nat) : Int)) rfl rfl (by omega) (by omega) ?_)
   refine O_m rfl ?_
   have hs := hs.f2
   have hs := hs.f2
   have hs := hs.f2
   refine O_nil ⟨_, ?_, [(0, _), (1, _), (7, _), (15, _), (16, _), (17, _)], ⟨rfl, rfl, rfl, rfl, rfl, rfl, trivial⟩, ⟨k + 1, acc, es2, clk2, _, by omega, hacl, by rw [hag, afterG_step (by omega), if_neg (by rw [hS22]; simp)], hM2, hX2, rfl, rfl, hs.weak hs.le (Ghost.le.refl _) (List.sublist_append_left [_, _, _] _)⟩⟩
   omega
 ·
  dsimp only [cmpP] at h18
  refine O_nil (T_kp [0, 1, 7, 15, 16, 17, 18] rfl ?_)
  refine T_seq (T_condF rfl (T_exit ?_))
  refine T_seq (T_region rfl ?_)
  refine O_m rfl ?_
  refine O_a rfl ?_
  refine O_nil (T_kp [6] rfl ?_)
  refine T_ret ?_
  have hs := hs.f2
  have hs := hs.f2
  refine Rt_fin (vs := [_]) Tryz.results82 rfl ⟨rfl, trivial⟩ ?_
  try dsimp only [tup]
  obtain rfl : k = S.length := by omega
  rw [List.drop_length, afterG] at hag
  exact ⟨_, _, hs, es2, clk2, b14, by rw [show afterB b.length (endsN l b i) S = acc from hag], rfl, hM2, hX2⟩

set_option maxHeartbeats 1000000 in
set_option maxRecDepth 10000 in
theorem aft2 {G : Ghost} {p mb clk i rs cs : Nat} {nv wv : Value} {l : List NodeV} {b : List UInt8} {es : List MapEntry} {S : List Bool} (hE : EndsC l b i) (hx : Rx G nv l) (hw : Bytes G wv b) (hM : Memo l b G es) (hSl : S.length = b.length + 1) (hbl : b.length ≤ 2000000) :
  FnOk Tryz.prog 82 [.pointer (some ⟨p, 0, none⟩), .int .i64 (i : Int), .slice (some ⟨rs, 0, none⟩) S.length cs] G [.blk p 74 [nv, wv, .map (some mb)], .obj mb (.map (List.toArray es) clk), .row 4 1 (.slice (some ⟨rs, 0, none⟩) S.length cs) S.length (List.map boolV S)] fun r G' H' => ∃ es' clk' rb, H' = [.blk p 74 [nv, wv, .map (some mb)], .obj mb (.map (List.toArray es') clk'), .row 4 1 (.slice (some ⟨rb, 0, none⟩) S.length S.length) S.length (List.map boolV (afterB b.length (endsN l b i) S)), .row 4 1 (.slice (some ⟨rs, 0, none⟩) S.length cs) S.length (List.map boolV S)] ∧ r = .slice (some ⟨rb, 0, none⟩) S.length S.length ∧ Memo l b G' es' ∧ Ext (i + 1) es es' := by
 refine FnOk.of_T [(0, _), (1, _), (2, _)] Tryz.func82 rfl Tryz.ntmps82 (by simp) rfl fun w0 hs => ?_
 have hx0 := hx
 have hw0 := hw
 refine T_seq (T_region rfl ?_)
 refine O_a rfl ?_
 refine O_nil (T_kp [0, 1, 2] rfl ?_)
 refine T_seq (T_region rfl ?_)
 refine O_m rfl ?_
 refine O_y hs (Y_len Tryz.underlying75 rfl ?_)
 refine O_s (S_make (n := S.length) (m := S.length) hs Tryz.underlying75 TI4 rfl rfl rfl (by omega) (by omega) (by omega) fun b14 _ hs => ?_)
 refine O_a rfl ?_
 refine O_nil (T_kp [0, 1, 2, 7] rfl ?_)
 refine T_seq (T_seq (T_region rfl ?_))
 refine O_m rfl ?_
 refine O_y hs (Y_len Tryz.underlying75 rfl ?_)
 refine O_m rfl ?_
 refine O_nil (T_kp [0, 1, 7, 15, 16, 17] rfl ?_)
 refine T_block (T_loop (fun m E w => ∃ (k : Nat) (acc : List Bool) (es2 : List MapEntry) (clk2 : Nat) (G' : Ghost), k ≤ S.length ∧ acc.length = S.length ∧ afterG (endsN l b i) 0 S (List.replicate (b.length + 1) false) = afterG (endsN l b i) k (S.drop k) acc ∧ Memo l b G' es2 ∧ Ext (i + 1) es es2 ∧ m = S.length - k ∧ E = ⟨[], [(0, .pointer (some ⟨p, 0, none⟩)), (1, .int .i64 (i : Int)), (7, .slice (some ⟨b14, 0, none⟩) S.length S.length), (15, .slice (some ⟨rs, 0, none⟩) S.length cs), (16, .int .i64 ((S.length : Nat) : Int)), (17, .int .i64 (k : Int))]⟩ ∧ St ⟨w0, G, feet [.blk p 74 [nv, wv, .map (some mb)], .obj mb (.map (List.toArray es) clk), .row 4 1 (.slice (some ⟨rs, 0, none⟩) S.length cs) S.length (List.map boolV S)]⟩ G' [.row 4 1 (.slice (some ⟨b14, 0, none⟩) S.length S.length) S.length (List.map boolV acc), .blk p 74 [nv, wv, .map (some mb)], .obj mb (.map (List.toArray es2) clk2), .row 4 1 (.slice (some ⟨rs, 0, none⟩) S.length cs) S.length (List.map boolV S)] w) (L := [(0, _), (1, _), (7, _), (15, _), (16, _), (17, _)]) ⟨rfl, rfl, rfl, rfl, rfl, rfl, trivial⟩ (⟨0, _, es, clk, _, by omega, by rw [List.length_replicate, hSl], rfl, hM, Ext.refl _ _, rfl, rfl, by rw [List.map_replicate, ← hSl]; exact hs⟩) fun m E w hI => ?_)
 obtain ⟨k, acc, es2, clk2, G', hk, hacl, hag, hM2, hX2, rfl, rfl, hs⟩ := hI
 have hx := hx0.mono hs.le
 have hw := hw0.mono hs.le
 refine T_seq (T_region rfl ?_)
 refine O_y hs (Y_cmpS rfl rfl rfl (fun h18 => ?_) (fun h18 => ?_))
 ·
  dsimp only [cmpP] at h18
  refine O_nil (T_kp [0, 1, 7, 15, 16, 17, 18] rfl ?_)
  refine T_seq (T_condT rfl (T_skip ?_))
  refine T_seq (T_block (T_seq (T_region rfl ?_)))
  refine O_m rfl ?_
  refine O_y hs (Y_idxRow (k) Tryz.underlying75 Tryz.sizeOf4 rfl rfl rfl (by omega) ?_)
  refine O_y hs (Y_ldRow 3 rfl Tryz.isAgg4 rfl (bool_row (by omega)) ?_)
  refine O_a rfl ?_
  refine O_a rfl ?_
  refine O_nil (T_kp [0, 1, 7, 8, 9, 15, 16, 17] rfl ?_)
  refine T_seq (T_region rfl ?_)
  refine O_m rfl ?_
  refine O_nil (T_kp [0, 1, 7, 8, 15, 16, 17, 22] rfl ?_)
  refine T_condS rfl (fun hS22 => ?_) (fun hS22 => ?_)
  ·
   refine T_seq (T_region rfl ?_)
   refine O_m rfl ?_
   refine O_m rfl ?_
   refine O_m rfl ?_
   have hs := hs.f2
   have hs := hs.f2
   refine O_s (S_call (H1 := [_, _]) hs rfl Tryz.func42 rfl (by kernel_rfl) (hE _ p mb _ _ _ _ k hx hw hM2 (by omega)) fun v1 G' H' _ hR hG26 hs => ?_)
   obtain ⟨es3, clk3, rfl, hM3, hX3, hEv⟩ := hR
   replace hs : St _ _ [_, _, _, _] _ := hs
   replace hx := hx.mono hG26
   replace hw := hw.mono hG26
   have hfm := hEv.form
   obtain ⟨A26, c26, rfl⟩ := hfm
   have hel := endsN_len l b i k
   refine O_y hs (Y_len Tryz.underlying75 rfl ?_)
   refine O_m rfl ?_
   refine O_nil (T_kp [0, 1, 7, 15, 16, 17, 26, 27, 28] rfl ?_)
   have hs := hs.f3
   have hs := hs.f2
   have hs := hs.f2
   have hs := hs.f3
   refine T_block (T_loop (fun m E w => ∃ (j : Nat) (G' : Ghost), j ≤ S.length ∧ Memo l b G' es3 ∧ Bools G' (.slice A26 (endsN l b i k).length c26) (endsN l b i k) ∧ m = S.length - j ∧ E = ⟨[], [(0, .pointer (some ⟨p, 0, none⟩)), (1, .int .i64 (i : Int)), (7, .slice (some ⟨b14, 0, none⟩) S.length S.length), (15, .slice (some ⟨rs, 0, none⟩) S.length cs), (16, .int .i64 ((S.length : Nat) : Int)), (17, .int .i64 (k : Int)), (26, .slice A26 (endsN l b i k).length c26), (27, .int .i64 (((endsN l b i k).length : Nat) : Int)), (28, .int .i64 (j : Int))]⟩ ∧ St ⟨w0, G, feet [.blk p 74 [nv, wv, .map (some mb)], .obj mb (.map (List.toArray es) clk), .row 4 1 (.slice (some ⟨rs, 0, none⟩) S.length cs) S.length (List.map boolV S)]⟩ G' [.row 4 1 (.slice (some ⟨b14, 0, none⟩) S.length S.length) S.length (List.map boolV (mixL acc (endsN l b i k) j)), .blk p 74 [nv, wv, .map (some mb)], .obj mb (.map (List.toArray es3) clk3), .row 4 1 (.slice (some ⟨rs, 0, none⟩) S.length cs) S.length (List.map boolV S)] w) (L := [(0, _), (1, _), (7, _), (15, _), (16, _), (17, _), (26, _), (27, _), (28, _)]) ⟨rfl, rfl, rfl, rfl, rfl, rfl, rfl, rfl, rfl, trivial⟩ (⟨0, _, by omega, hM3, hEv, rfl, rfl, hs⟩) fun m E w hI => ?_)
   obtain ⟨j, G', hj, hM3, hEv, rfl, rfl, hs⟩ := hI
   have hx := hx0.mono hs.le
   have hw := hw0.mono hs.le
   refine T_seq (T_region rfl ?_)
   refine O_y hs (Y_cmpS rfl rfl rfl (fun h29 => ?_) (fun h29 => ?_))
   ·
    dsimp only [cmpP] at h29
    refine O_nil (T_kp [0, 1, 7, 15, 16, 17, 26, 27, 28, 29] rfl ?_)
    refine T_seq (T_condT rfl (T_skip ?_))
    refine T_seq (T_block (T_seq (T_region rfl ?_)))
    refine O_m rfl ?_
    refine O_y hs (Y_idx1 j Tryz.underlying75 Tryz.sizeOf4 hEv rfl rfl rfl (bool_row (by omega)) fun p31 hp31 => ?_)
    refine O_y hs (Y_ldG Tryz.isAgg4 rfl (hp31) ?_)
    refine O_a rfl ?_
    refine O_a rfl ?_
    refine O_nil (T_kp [0, 1, 7, 10, 11, 15, 16, 17, 26, 27, 28] rfl ?_)
    refine T_region rfl ?_
    refine O_m rfl ?_
    refine O_m rfl ?_
    refine O_m rfl ?_
    refine O_m rfl ?_
    refine O_y hs (Y_idxRow (j) Tryz.underlying75 Tryz.sizeOf4 rfl rfl rfl (by omega) ?_)
    refine O_y hs (Y_ldRow 0 rfl Tryz.isAgg4 rfl (mix_row (by omega) (by omega)) ?_)
    cases h39 : acc[j]'(by omega)
    ·
     refine O_m rfl ?_
     refine O_yy 39 hs rfl rfl (Y_move rfl ?_)
     refine O_y hs (Y_pickF rfl rfl ?_)
     refine O_y hs (Y_idxRow (j) Tryz.underlying75 Tryz.sizeOf4 rfl rfl rfl (by omega) ?_)
     refine O_n (S_stRow hs Tryz.sizeOf4 rfl rfl rfl (by omega) fun _ hs => ?_)
     refine O_nil (T_kp [0, 1, 7, 15, 16, 17, 26, 27, 28] rfl ?_)
     refine T_region rfl ?_
     refine O_y hs (Y_add (c := ((j + 1 : Nat) : Int)) rfl rfl (by omega) (by omega) ?_)
     refine O_m rfl ?_
     refine O_nil ⟨_, ?_, [(0, _), (1, _), (7, _), (15, _), (16, _), (17, _), (26, _), (27, _), (28, _)], ⟨rfl, rfl, rfl, rfl, rfl, rfl, rfl, rfl, rfl, trivial⟩, ⟨j + 1, _, by omega, hM3, hEv, rfl, rfl, by rw [← mix_set (show acc.length = (endsN l b i k).length by omega) (show j < acc.length by omega) (x := (endsN l b i k)[j]'(by omega)) (by rw [h39]; rfl)]; exact hs⟩⟩
     omega
    ·
     refine O_m rfl ?_
     refine O_no 39 rfl rfl ?_
     refine O_y hs (Y_pickT rfl rfl ?_)
     refine O_y hs (Y_idxRow (j) Tryz.underlying75 Tryz.sizeOf4 rfl rfl rfl (by omega) ?_)
     refine O_n (S_stRow hs Tryz.sizeOf4 rfl rfl rfl (by omega) fun _ hs => ?_)
     refine O_nil (T_kp [0, 1, 7, 15, 16, 17, 26, 27, 28] rfl ?_)
     refine T_region rfl ?_
     refine O_y hs (Y_add (c := ((j + 1 : Nat) : Int)) rfl rfl (by omega) (by omega) ?_)
     refine O_m rfl ?_
     refine O_nil ⟨_, ?_, [(0, _), (1, _), (7, _), (15, _), (16, _), (17, _), (26, _), (27, _), (28, _)], ⟨rfl, rfl, rfl, rfl, rfl, rfl, rfl, rfl, rfl, trivial⟩, ⟨j + 1, _, by omega, hM3, hEv, rfl, rfl, by rw [← mix_set (show acc.length = (endsN l b i k).length by omega) (show j < acc.length by omega) (x := true) (by rw [h39]; rfl)]; exact hs⟩⟩
     omega
   ·
    dsimp only [cmpP] at h29
    refine O_nil (T_kp [0, 1, 7, 15, 16, 17, 26, 27, 28, 29] rfl ?_)
    refine T_seq (T_condF rfl (T_exit ?_))
    refine T_region rfl ?_
    refine O_y hs (Y_add (c := ((k + 1 : Nat) : Int)) rfl rfl (by omega) (by omega) ?_)
    refine O_m rfl ?_
    have hs := hs.f3
    have hs := hs.f3
    have hs := hs.f3
    have hs := hs.f3
    obtain rfl : j = S.length := by omega
    have hma : mixL acc (endsN l b i k) S.length = orL acc (endsN l b i k) := by rw [← hacl]; exact mix_all (by omega)
    rw [hma] at hs
    refine O_nil ⟨_, ?_, [(0, _), (1, _), (7, _), (15, _), (16, _), (17, _)], ⟨rfl, rfl, rfl, rfl, rfl, rfl, trivial⟩, ⟨k + 1, orL acc (endsN l b i k), es3, clk3, _, by omega, by rw [orL_len _ _ (by omega)]; exact hacl, by rw [hag, afterG_step (by omega), if_pos hS22], hM3, hX2.trans hX3, rfl, rfl, hs.weak hs.le (Ghost.le.refl _) (List.sublist_append_left [_, _, _, _] _)⟩⟩
    omega
  ·
   refine T_skip ?_
   refine T_region rfl ?_
   refine O_y hs (Y_add (c := ((k + 1 : Nat) : Int)) rfl rfl (by omega) (by omega) ?_)
   refine O_m rfl ?_
   have hs := hs.f3
   have hs := hs.f3
   have hs := hs.f3
   have hs := hs.f3
   refine O_nil ⟨_, ?_, [(0, _), (1, _), (7, _), (15, _), (16, _), (17, _)], ⟨rfl, rfl, rfl, rfl, rfl, rfl, trivial⟩, ⟨k + 1, acc, es2, clk2, _, by omega, hacl, by rw [hag, afterG_step (by omega), if_neg (by rw [hS22]; simp)], hM2, hX2, rfl, rfl, hs.weak hs.le (Ghost.le.refl _) (List.sublist_append_left [_, _, _, _] _)⟩⟩
   omega
 ·
  dsimp only [cmpP] at h18
  refine O_nil (T_kp [0, 1, 7, 15, 16, 17, 18] rfl ?_)
  refine T_seq (T_condF rfl (T_exit ?_))
  refine T_seq (T_region rfl ?_)
  refine O_m rfl ?_
  refine O_a rfl ?_
  refine O_nil (T_kp [6] rfl ?_)
  refine T_ret ?_
  have hs := hs.f3
  have hs := hs.f1
  have hs := hs.f3
  have hs := hs.f3
  refine Rt_fin (vs := [_]) Tryz.results82 rfl ⟨rfl, trivial⟩ ?_
  try dsimp only [tup]
  obtain rfl : k = S.length := by omega
  rw [List.drop_length, afterG] at hag
  exact ⟨_, _, hs, es2, clk2, b14, by rw [show afterB b.length (endsN l b i) S = acc from hag], rfl, hM2, hX2⟩

theorem aft1' {G : Ghost} {p mb clk i : Nat} {nv wv sv : Value} {l : List NodeV} {b : List UInt8} {es : List MapEntry} {S : List Bool} (hE : EndsC l b i) (hx : Rx G nv l) (hw : Bytes G wv b) (hM : Memo l b G es) (hSl : S.length = b.length + 1) (hbl : b.length ≤ 2000000) (hS : Bools G sv S) :
    FnOk Tryz.prog 82 [.pointer (some ⟨p, 0, none⟩), .int .i64 (i : Int), sv] G [.blk p 74 [nv, wv, .map (some mb)], .obj mb (.map (List.toArray es) clk)] fun r G' H' => ∃ es' clk' rb, H' = [.blk p 74 [nv, wv, .map (some mb)], .obj mb (.map (List.toArray es') clk'), .row 4 1 (.slice (some ⟨rb, 0, none⟩) (b.length + 1) (b.length + 1)) (b.length + 1) (List.map boolV (afterB b.length (endsN l b i) S))] ∧ r = .slice (some ⟨rb, 0, none⟩) (b.length + 1) (b.length + 1) ∧ Memo l b G' es' ∧ Ext (i + 1) es es' := by
  have h := aft1 (p := p) (mb := mb) (clk := clk) hE hx hw hM hSl hbl hS
  rw [hSl] at h; exact h
theorem aft2' {G : Ghost} {p mb clk i rs cs : Nat} {nv wv : Value} {l : List NodeV} {b : List UInt8} {es : List MapEntry} {S : List Bool} (hE : EndsC l b i) (hx : Rx G nv l) (hw : Bytes G wv b) (hM : Memo l b G es) (hSl : S.length = b.length + 1) (hbl : b.length ≤ 2000000) :
    FnOk Tryz.prog 82 [.pointer (some ⟨p, 0, none⟩), .int .i64 (i : Int), .slice (some ⟨rs, 0, none⟩) (b.length + 1) cs] G [.blk p 74 [nv, wv, .map (some mb)], .obj mb (.map (List.toArray es) clk), .row 4 1 (.slice (some ⟨rs, 0, none⟩) (b.length + 1) cs) (b.length + 1) (List.map boolV S)] fun r G' H' => ∃ es' clk' rb, H' = [.blk p 74 [nv, wv, .map (some mb)], .obj mb (.map (List.toArray es') clk'), .row 4 1 (.slice (some ⟨rb, 0, none⟩) (b.length + 1) (b.length + 1)) (b.length + 1) (List.map boolV (afterB b.length (endsN l b i) S)), .row 4 1 (.slice (some ⟨rs, 0, none⟩) (b.length + 1) cs) (b.length + 1) (List.map boolV S)] ∧ r = .slice (some ⟨rb, 0, none⟩) (b.length + 1) (b.length + 1) ∧ Memo l b G' es' ∧ Ext (i + 1) es es' := by
  have h := aft2 (p := p) (mb := mb) (clk := clk) (rs := rs) (cs := cs) hE hx hw hM hSl hbl
  rw [hSl] at h; exact h


set_option maxHeartbeats 2000000 in
set_option maxRecDepth 10000 in
theorem tim_ok {G : Ghost} {p mb clk L rs : Nat} {nv wv : Value} {l : List NodeV} {b : List UInt8} {es : List MapEntry} {S : List Bool} {kd rr mn mx : Int} {cc : List Nat} (hcc : cc.length = 4) (hE : EndsC l b L) (hx : Rx G nv l) (hw : Bytes G wv b) (hM : Memo l b G es) (hSl : S.length = b.length + 1) (hbl : b.length ≤ 2000000) (hmn : 0 ≤ mn ∧ mn ≤ 16 ∧ -1 ≤ mx ∧ mx ≤ 16 ∧ (mx < 0 ∨ mn ≤ mx)) :
  FnOk Tryz.prog 83 [.pointer (some ⟨p, 0, none⟩), .agg (nodeC ⟨kd, cc, (L : Int), rr, mn, mx⟩).toArray, .slice (some ⟨rs, 0, none⟩) (b.length + 1) (b.length + 1)] G [.blk p 74 [nv, wv, .map (some mb)], .obj mb (.map (List.toArray es) clk), .row 4 1 (.slice (some ⟨rs, 0, none⟩) (b.length + 1) (b.length + 1)) (b.length + 1) (List.map boolV S)] fun r G' H' => ∃ es' clk' rb, H' = [.blk p 74 [nv, wv, .map (some mb)], .obj mb (.map (List.toArray es') clk'), .row 4 1 (.slice (some ⟨rb, 0, none⟩) (b.length + 1) (b.length + 1)) (b.length + 1) (List.map boolV (timesB b.length (endsN l b L) mn mx S))] ∧ r = .slice (some ⟨rb, 0, none⟩) (b.length + 1) (b.length + 1) ∧ Memo l b G' es' ∧ Ext (L + 1) es es' := by
 obtain ⟨c0, c1, c2, c3, rfl⟩ := four_of hcc
 show FnOk Tryz.prog 83 [.pointer (some ⟨p, 0, none⟩), .agg #[.int .i64 kd, u64V c0, u64V c1, u64V c2, u64V c3, .int .i64 (L : Int), .int .i64 rr, .int .i64 mn, .int .i64 mx], .slice (some ⟨rs, 0, none⟩) (b.length + 1) (b.length + 1)] G [.blk p 74 [nv, wv, .map (some mb)], .obj mb (.map (List.toArray es) clk), .row 4 1 (.slice (some ⟨rs, 0, none⟩) (b.length + 1) (b.length + 1)) (b.length + 1) (List.map boolV S)] _
 refine FnOk.of_T [(0, _), (1, _), (2, _)] Tryz.func83 rfl Tryz.ntmps83 (by simp) rfl fun w0 hs => ?_
 have hx0 := hx
 have hw0 := hw
 refine T_seq (T_region rfl ?_)
 refine O_s (S_box hs rfl (cs := [_, _, _, _, _, _, _, _, _]) rfl fun b4 _ hs => ?_)
 refine O_a rfl ?_
 refine O_nil (T_kp [0, 2, 4] rfl ?_)
 refine T_seq (T_seq (T_region rfl ?_))
 refine O_y hs (Y_fieldAddr FO42_4 rfl (m := 7) rfl ?_)
 refine O_y hs (Y_ld 0 Tryz.isAgg3 rfl rfl rfl ?_)
 refine O_m rfl ?_
 refine O_nil (T_kp [0, 2, 4, 12, 13] rfl ?_)
 have hs := hs.f3
 have hs := hs.f3
 have hs := hs.f3
 refine T_block (T_loop (fun m E w => ∃ (k : Nat) (T : List Bool) (es2 : List MapEntry) (clk2 rt : Nat) (G' : Ghost), k ≤ mn.toNat ∧ T.length = b.length + 1 ∧ minB b.length (endsN l b L) mn.toNat S = minB b.length (endsN l b L) (mn.toNat - k) T ∧ Memo l b G' es2 ∧ Ext (L + 1) es es2 ∧ m = mn.toNat - k ∧ E = ⟨[], [(0, .pointer (some ⟨p, 0, none⟩)), (2, .slice (some ⟨rt, 0, none⟩) (b.length + 1) (b.length + 1)), (4, .pointer (some ⟨b4, 0, none⟩)), (12, .int .i64 mn), (13, .int .i64 (k : Int))]⟩ ∧ St ⟨w0, G, feet [.blk p 74 [nv, wv, .map (some mb)], .obj mb (.map (List.toArray es) clk), .row 4 1 (.slice (some ⟨rs, 0, none⟩) (b.length + 1) (b.length + 1)) (b.length + 1) (List.map boolV S)]⟩ G' [.blk p 74 [nv, wv, .map (some mb)], .obj mb (.map (List.toArray es2) clk2), .row 4 1 (.slice (some ⟨rt, 0, none⟩) (b.length + 1) (b.length + 1)) (b.length + 1) (List.map boolV T), .blk b4 42 [.int .i64 kd, u64V c0, u64V c1, u64V c2, u64V c3, .int .i64 (L : Int), .int .i64 rr, .int .i64 mn, .int .i64 mx]] w) (L := [(0, _), (2, _), (4, _), (12, _), (13, _)]) ⟨rfl, rfl, rfl, rfl, rfl, trivial⟩ (⟨0, S, es, clk, rs, _, by omega, hSl, rfl, hM, Ext.refl _ _, rfl, rfl, hs⟩) fun m E w hI => ?_)
 obtain ⟨k, T, es2, clk2, rt, G', hk, hTl, hmin, hM2, hX2, rfl, rfl, hs⟩ := hI
 have hx := hx0.mono hs.le
 have hw := hw0.mono hs.le
 refine T_seq (T_region rfl ?_)
 refine O_y hs (Y_cmpS rfl rfl rfl (fun h14 => ?_) (fun h14 => ?_))
 ·
  dsimp only [cmpP] at h14
  refine O_nil (T_kp [0, 2, 4, 12, 13, 14] rfl ?_)
  refine T_seq (T_condT rfl (T_skip ?_))
  refine T_seq (T_block (T_region rfl ?_))
  refine O_m rfl ?_
  refine O_y hs (Y_fieldAddr FO42_2 rfl (m := 5) rfl ?_)
  refine O_y hs (Y_ld 3 Tryz.isAgg3 rfl rfl rfl ?_)
  refine O_m rfl ?_
  have hs := hs.f2
  have hs := hs.f2
  have hs := hs.f2
  refine O_s (S_call (H1 := [_, _, _]) hs rfl Tryz.func82 rfl (by kernel_rfl) (aft2' (es := es2) (S := T) hE hx hw hM2 hTl hbl) fun v1 G' H' _ hR hG19 hs => ?_)
  obtain ⟨es3, clk3, rb19, rfl, rfl, hM3, hX3⟩ := hR
  replace hs : St _ _ [_, _, _, _, _] _ := hs
  replace hx := hx.mono hG19
  replace hw := hw.mono hG19
  refine O_a rfl ?_
  refine O_nil (T_kp [0, 2, 4, 12, 13] rfl ?_)
  refine T_region rfl ?_
  refine O_y hs (Y_add (c := ((k + 1 : Nat) : Int)) rfl rfl (by omega) (by omega) ?_)
  refine O_m rfl ?_
  have hs := hs.f4
  have hs := hs.f3
  have hs := hs.f3
  have hs := hs.f3
  refine O_nil ⟨_, ?_, [(0, _), (2, _), (4, _), (12, _), (13, _)], ⟨rfl, rfl, rfl, rfl, rfl, trivial⟩, ⟨k + 1, (afterB b.length (endsN l b L) T), es3, clk3, rb19, _, by omega, after_len _ _ _ _, by rw [hmin, minB_step (by omega)]; congr 1, hM3, hX2.trans hX3, rfl, rfl, hs.weak hs.le (Ghost.le.refl _) (List.sublist_append_left [_, _, _, _] _)⟩⟩
  omega
 ·
  dsimp only [cmpP] at h14
  refine O_nil (T_kp [0, 2, 4, 12, 13, 14] rfl ?_)
  refine T_seq (T_condF rfl (T_exit ?_))
  refine T_seq (T_region rfl ?_)
  refine O_y hs (Y_fieldAddr FO42_5 rfl (m := 8) rfl ?_)
  refine O_y hs (Y_ld 3 Tryz.isAgg3 rfl rfl rfl ?_)
  refine O_y hs (Y_fieldAddr FO42_4 rfl (m := 7) rfl ?_)
  refine O_y hs (Y_ld 3 Tryz.isAgg3 rfl rfl rfl ?_)
  refine O_y hs (Y_sub (c := (mx - mn)) rfl rfl (by omega) (by omega) ?_)
  refine O_a rfl ?_
  refine O_nil (T_kp [0, 2, 4, 7] rfl ?_)
  refine T_seq (T_seq (T_region rfl ?_))
  refine O_y hs (Y_fieldAddr FO42_5 rfl (m := 8) rfl ?_)
  refine O_y hs (Y_ld 3 Tryz.isAgg3 rfl rfl rfl ?_)
  refine O_y hs (Y_cmpS rfl rfl rfl (fun h28 => ?_) (fun h28 => ?_))
  ·
   dsimp only [cmpP] at h28
   refine O_nil (T_kp [0, 2, 4, 7, 28] rfl ?_)
   refine T_condT rfl (T_region rfl ?_)
   refine O_m rfl ?_
   refine O_y hs (Y_nil rfl ?_)
   refine O_y hs (Y_fieldAddr FO74_1 rfl (m := 1) rfl ?_)
   refine O_y hs (Y_ld 0 Tryz.isAgg30 rfl rfl rfl ?_)
   refine O_y hs (Y_lenB Tryz.underlying30 hw rfl ?_)
   refine O_y hs (Y_add (c := ((b.length + 1 : Nat) : Int)) rfl rfl (by omega) (by omega) ?_)
   refine O_a rfl ?_
   refine O_nil (T_kp [0, 2, 4, 7] rfl ?_)
   have hRn : ((b.length + 1 : Nat) : Int) = ((roundsN b.length mn mx : Nat) : Int) := by unfold roundsN; rw [if_pos (by omega)]
   rw [hRn]
   obtain rfl : k = mn.toNat := by omega
   rw [Nat.sub_self] at hmin
   have hK : timesB b.length (endsN l b L) mn mx S = roundsB b.length (endsN l b L) (roundsN b.length mn mx) T := by unfold timesB roundsN; rw [hmin]; rfl
   have hRb : roundsN b.length mn mx ≤ 2000001 := by omega
   refine T_seq (T_seq (T_region rfl ?_))
   refine O_m rfl ?_
   refine O_m rfl ?_
   refine O_nil (T_kp [0, 2, 4, 35, 36] rfl ?_)
   have hs := hs.f3
   have hs := hs.f3
   have hs := hs.f3
   have hs := hs.f3
   obtain ⟨T0, hT0⟩ : ∃ T0, T0 = T := ⟨_, rfl⟩
   rw [← hT0] at hK
   refine T_block (T_loop (fun m E w => ∃ (k : Nat) (T : List Bool) (es2 : List MapEntry) (clk2 rt : Nat) (G' : Ghost), k ≤ roundsN b.length mn mx ∧ T.length = b.length + 1 ∧ roundsB b.length (endsN l b L) (roundsN b.length mn mx) T0 = roundsB b.length (endsN l b L) (roundsN b.length mn mx - k) T ∧ Memo l b G' es2 ∧ Ext (L + 1) es es2 ∧ m = roundsN b.length mn mx - k ∧ E = ⟨[], [(0, .pointer (some ⟨p, 0, none⟩)), (2, .slice (some ⟨rt, 0, none⟩) (b.length + 1) (b.length + 1)), (4, .pointer (some ⟨b4, 0, none⟩)), (35, .int .i64 ((roundsN b.length mn mx : Nat) : Int)), (36, .int .i64 (k : Int))]⟩ ∧ St ⟨w0, G, feet [.blk p 74 [nv, wv, .map (some mb)], .obj mb (.map (List.toArray es) clk), .row 4 1 (.slice (some ⟨rs, 0, none⟩) (b.length + 1) (b.length + 1)) (b.length + 1) (List.map boolV S)]⟩ G' [.blk p 74 [nv, wv, .map (some mb)], .obj mb (.map (List.toArray es2) clk2), .row 4 1 (.slice (some ⟨rt, 0, none⟩) (b.length + 1) (b.length + 1)) (b.length + 1) (List.map boolV T), .blk b4 42 [.int .i64 kd, u64V c0, u64V c1, u64V c2, u64V c3, .int .i64 (L : Int), .int .i64 rr, .int .i64 mn, .int .i64 mx]] w) (L := [(0, _), (2, _), (4, _), (35, _), (36, _)]) ⟨rfl, rfl, rfl, rfl, rfl, trivial⟩ (⟨0, T, es2, clk2, rt, _, by omega, hTl, by rw [hT0]; rfl, hM2, hX2, rfl, rfl, hs⟩) fun m E w hI => ?_)
   obtain ⟨k, T, es2, clk2, rt, G', hk, hTl, hrnd, hM2, hX2, rfl, rfl, hs⟩ := hI
   have hx := hx0.mono hs.le
   have hw := hw0.mono hs.le
   refine T_seq (T_region rfl ?_)
   refine O_y hs (Y_cmpS rfl rfl rfl (fun h37 => ?_) (fun h37 => ?_))
   ·
    dsimp only [cmpP] at h37
    refine O_nil (T_kp [0, 2, 4, 35, 36, 37] rfl ?_)
    refine T_seq (T_condT rfl (T_skip ?_))
    refine T_seq (T_block (T_seq (T_region rfl ?_)))
    refine O_a rfl ?_
    refine O_nil (T_kp [0, 2, 4, 8, 35, 36] rfl ?_)
    refine T_seq (T_seq (T_region rfl ?_))
    refine O_m rfl ?_
    refine O_y hs (Y_fieldAddr FO42_2 rfl (m := 5) rfl ?_)
    refine O_y hs (Y_ld 3 Tryz.isAgg3 rfl rfl rfl ?_)
    refine O_m rfl ?_
    have hs := hs.f2
    have hs := hs.f2
    have hs := hs.f2
    refine O_s (S_call (H1 := [_, _, _]) hs rfl Tryz.func82 rfl (by kernel_rfl) (aft2' (es := es2) (S := T) hE hx hw hM2 hTl hbl) fun v2 G' H' _ hR hG42 hs => ?_)
    obtain ⟨es3, clk3, rb42, rfl, rfl, hM3, hX3⟩ := hR
    replace hs : St _ _ [_, _, _, _, _] _ := hs
    replace hx := hx.mono hG42
    replace hw := hw.mono hG42
    refine O_y hs (Y_len Tryz.underlying75 rfl ?_)
    refine O_m rfl ?_
    refine O_nil (T_kp [0, 2, 4, 8, 35, 36, 42, 43, 44] rfl ?_)
    have hs := hs.f4
    have hs := hs.f3
    have hs := hs.f4
    have hs := hs.f4
    have hs := hs.f4
    have haf := after_len l b L T
    refine T_block (T_loop (fun m E w => ∃ (j : Nat) (ch : Bool) (G' : Ghost), j ≤ b.length + 1 ∧ (ch = false → mixL T (afterB b.length (endsN l b L) T) j = T) ∧ (ch = true → ¬ orL T (afterB b.length (endsN l b L) T) = T) ∧ Memo l b G' es3 ∧ m = b.length + 1 - j ∧ E = ⟨[], [(0, .pointer (some ⟨p, 0, none⟩)), (2, .slice (some ⟨rt, 0, none⟩) (b.length + 1) (b.length + 1)), (4, .pointer (some ⟨b4, 0, none⟩)), (8, .bool ch), (35, .int .i64 ((roundsN b.length mn mx : Nat) : Int)), (36, .int .i64 (k : Int)), (42, .slice (some ⟨rb42, 0, none⟩) (b.length + 1) (b.length + 1)), (43, .int .i64 (((b.length + 1) : Nat) : Int)), (44, .int .i64 (j : Int))]⟩ ∧ St ⟨w0, G, feet [.blk p 74 [nv, wv, .map (some mb)], .obj mb (.map (List.toArray es) clk), .row 4 1 (.slice (some ⟨rs, 0, none⟩) (b.length + 1) (b.length + 1)) (b.length + 1) (List.map boolV S)]⟩ G' [.blk p 74 [nv, wv, .map (some mb)], .obj mb (.map (List.toArray es3) clk3), .row 4 1 (.slice (some ⟨rt, 0, none⟩) (b.length + 1) (b.length + 1)) (b.length + 1) (List.map boolV (mixL T (afterB b.length (endsN l b L) T) j)), .row 4 1 (.slice (some ⟨rb42, 0, none⟩) (b.length + 1) (b.length + 1)) (b.length + 1) (List.map boolV (afterB b.length (endsN l b L) T)), .blk b4 42 [.int .i64 kd, u64V c0, u64V c1, u64V c2, u64V c3, .int .i64 (L : Int), .int .i64 rr, .int .i64 mn, .int .i64 mx]] w) (L := [(0, _), (2, _), (4, _), (8, _), (35, _), (36, _), (42, _), (43, _), (44, _)]) ⟨rfl, rfl, rfl, rfl, rfl, rfl, rfl, rfl, rfl, trivial⟩ (⟨0, false, _, by omega, fun _ => rfl, fun h => (by cases h), hM3, rfl, rfl, hs⟩) fun m E w hI => ?_)
    obtain ⟨j, ch, G', hj, hc1, hc2, hM3, rfl, rfl, hs⟩ := hI
    have hx := hx0.mono hs.le
    have hw := hw0.mono hs.le
    refine T_seq (T_region rfl ?_)
    refine O_y hs (Y_cmpS rfl rfl rfl (fun h45 => ?_) (fun h45 => ?_))
    ·
     dsimp only [cmpP] at h45
     refine O_nil (T_kp [0, 2, 4, 8, 35, 36, 42, 43, 44, 45] rfl ?_)
     refine T_seq (T_condT rfl (T_skip ?_))
     refine T_seq (T_block (T_seq (T_region rfl ?_)))
     refine O_m rfl ?_
     refine O_y hs (Y_idxRow (j) Tryz.underlying75 Tryz.sizeOf4 rfl rfl rfl (by omega) ?_)
     refine O_y hs (Y_ldRow 3 rfl Tryz.isAgg4 rfl (bool_row (by omega)) ?_)
     refine O_a rfl ?_
     refine O_a rfl ?_
     refine O_nil (T_kp [0, 2, 4, 8, 9, 10, 35, 36, 42, 43, 44] rfl ?_)
     refine T_seq (T_region rfl ?_)
     cases h49 : (afterB b.length (endsN l b L) T)[j]'(by omega)
     ·
      refine O_m rfl ?_
      refine O_m rfl ?_
      refine O_no 50 rfl rfl ?_
      refine O_no 50 rfl rfl ?_
      refine O_no 50 rfl rfl ?_
      refine O_no 50 rfl rfl ?_
      cases h55 : T[j]'(by omega)
      ·
       refine O_no 50 rfl rfl ?_
       refine O_y hs (Y_pickF rfl rfl ?_)
       refine O_nil (T_kp [0, 2, 4, 8, 9, 35, 36, 42, 43, 44, 56] rfl ?_)
       refine T_condF rfl (T_skip ?_)
       refine T_region rfl ?_
       refine O_y hs (Y_add (c := ((j + 1 : Nat) : Int)) rfl rfl (by omega) (by omega) ?_)
       refine O_m rfl ?_
       have hs := hs.f4
       have hs := hs.f4
       have hs := hs.f4
       have hs := hs.f4
       have hs := hs.f4
       have hsm := mix_same (show T.length = (afterB b.length (endsN l b L) T).length by omega) (show j < T.length by omega) (by rw [h49, Bool.or_false])
       refine O_nil ⟨_, ?_, [(0, _), (2, _), (4, _), (8, _), (35, _), (36, _), (42, _), (43, _), (44, _)], ⟨rfl, rfl, rfl, rfl, rfl, rfl, rfl, rfl, rfl, trivial⟩, ⟨j + 1, ch, _, by omega, fun h => by rw [hsm]; exact hc1 h, hc2, hM3, rfl, rfl, by rw [hsm]; exact hs⟩⟩
       omega
      ·
       refine O_no 50 rfl rfl ?_
       refine O_y hs (Y_pickF rfl rfl ?_)
       refine O_nil (T_kp [0, 2, 4, 8, 9, 35, 36, 42, 43, 44, 56] rfl ?_)
       refine T_condF rfl (T_skip ?_)
       refine T_region rfl ?_
       refine O_y hs (Y_add (c := ((j + 1 : Nat) : Int)) rfl rfl (by omega) (by omega) ?_)
       refine O_m rfl ?_
       have hs := hs.f4
       have hs := hs.f4
       have hs := hs.f4
       have hs := hs.f4
       have hs := hs.f4
       have hsm := mix_same (show T.length = (afterB b.length (endsN l b L) T).length by omega) (show j < T.length by omega) (by rw [h49, Bool.or_false])
       refine O_nil ⟨_, ?_, [(0, _), (2, _), (4, _), (8, _), (35, _), (36, _), (42, _), (43, _), (44, _)], ⟨rfl, rfl, rfl, rfl, rfl, rfl, rfl, rfl, rfl, trivial⟩, ⟨j + 1, ch, _, by omega, fun h => by rw [hsm]; exact hc1 h, hc2, hM3, rfl, rfl, by rw [hsm]; exact hs⟩⟩
       omega
     ·
      refine O_m rfl ?_
      refine O_m rfl ?_
      refine O_yy 50 hs rfl rfl (Y_move rfl ?_)
      refine O_yy 50 hs rfl rfl (Y_move rfl ?_)
      refine O_yy 50 hs rfl rfl (Y_idxRow (j) Tryz.underlying75 Tryz.sizeOf4 rfl rfl rfl (by omega) ?_)
      refine O_yy 50 hs rfl rfl (Y_ldRow 2 rfl Tryz.isAgg4 rfl (mix_row (by omega) (by omega)) ?_)
      cases h55 : T[j]'(by omega)
      ·
       refine O_yy 50 hs rfl rfl (Y_not rfl ?_)
       refine O_y hs (Y_pickT rfl rfl ?_)
       refine O_nil (T_kp [0, 2, 4, 8, 9, 35, 36, 42, 43, 44, 56] rfl ?_)
       refine T_condT rfl (T_region rfl ?_)
       refine O_m rfl ?_
       refine O_m rfl ?_
       refine O_y hs (Y_idxRow (j) Tryz.underlying75 Tryz.sizeOf4 rfl rfl rfl (by omega) ?_)
       have hs := hs.f2
       refine O_n (S_stRow hs Tryz.sizeOf4 rfl rfl rfl (by omega) fun _ hs => ?_)
       refine O_a rfl ?_
       refine O_nil (T_kp [0, 2, 4, 8, 35, 36, 42, 43, 44] rfl ?_)
       refine T_region rfl ?_
       refine O_y hs (Y_add (c := ((j + 1 : Nat) : Int)) rfl rfl (by omega) (by omega) ?_)
       refine O_m rfl ?_
       have hs := hs.f4
       have hs := hs.f4
       have hs := hs.f2
       have hs := hs.f4
       have hs := hs.f4
       refine O_nil ⟨_, ?_, [(0, _), (2, _), (4, _), (8, _), (35, _), (36, _), (42, _), (43, _), (44, _)], ⟨rfl, rfl, rfl, rfl, rfl, rfl, rfl, rfl, rfl, trivial⟩, ⟨j + 1, true, _, by omega, fun h => (by cases h), fun _ => or_ne (by omega) (show j < T.length by omega) h55 h49, hM3, rfl, rfl, by rw [← mix_set (show T.length = (afterB b.length (endsN l b L) T).length by omega) (show j < T.length by omega) (x := true) (by rw [h55, h49]; rfl)]; exact hs⟩⟩
       omega
      ·
       refine O_yy 50 hs rfl rfl (Y_not rfl ?_)
       refine O_y hs (Y_pickT rfl rfl ?_)
       refine O_nil (T_kp [0, 2, 4, 8, 9, 35, 36, 42, 43, 44, 56] rfl ?_)
       refine T_condF rfl (T_skip ?_)
       refine T_region rfl ?_
       refine O_y hs (Y_add (c := ((j + 1 : Nat) : Int)) rfl rfl (by omega) (by omega) ?_)
       refine O_m rfl ?_
       have hs := hs.f4
       have hs := hs.f4
       have hs := hs.f4
       have hs := hs.f4
       have hs := hs.f4
       have hsm := mix_same (show T.length = (afterB b.length (endsN l b L) T).length by omega) (show j < T.length by omega) (by rw [h55]; rfl)
       refine O_nil ⟨_, ?_, [(0, _), (2, _), (4, _), (8, _), (35, _), (36, _), (42, _), (43, _), (44, _)], ⟨rfl, rfl, rfl, rfl, rfl, rfl, rfl, rfl, rfl, trivial⟩, ⟨j + 1, ch, _, by omega, fun h => by rw [hsm]; exact hc1 h, hc2, hM3, rfl, rfl, by rw [hsm]; exact hs⟩⟩
       omega
    ·
     dsimp only [cmpP] at h45
     refine O_nil (T_kp [0, 2, 4, 8, 35, 36, 42, 43, 44, 45] rfl ?_)
     refine T_seq (T_condF rfl (T_exit ?_))
     obtain rfl : j = b.length + 1 := by omega
     have hma : mixL T (afterB b.length (endsN l b L) T) (b.length + 1) = orL T (afterB b.length (endsN l b L) T) := by rw [← hTl]; exact mix_all (by omega)
     rw [hma] at hs hc1
     refine T_seq (T_region rfl ?_)
     cases h61 : ch
     ·
      refine O_m rfl ?_
      refine O_y hs (Y_not rfl ?_)
      refine O_nil (T_kp [0, 2, 4, 35, 36, 62] rfl ?_)
      refine T_condT rfl (T_exit ?_)
      refine T_seq (T_region rfl ?_)
      refine O_m rfl ?_
      refine O_a rfl ?_
      refine O_nil (T_kp [6] rfl ?_)
      refine T_ret ?_
      have hs := hs.f2
      have hs := hs.f2
      have hs := hs.f2
      refine Rt_fin (vs := [_]) Tryz.results83 rfl ⟨rfl, trivial⟩ ?_
      try dsimp only [tup]
      have hfin : timesB b.length (endsN l b L) mn mx S = orL T (afterB b.length (endsN l b L) T) := by rw [hK]; rw [hrnd, rounds_stop (by omega) (hc1 h61), hc1 h61]
      exact ⟨_, _, hs.weak hs.le (Ghost.le.refl _) (List.sublist_append_left [_, _, _] _), es3, clk3, rt, by rw [hfin], rfl, hM3, hX2.trans hX3⟩
     ·
      refine O_m rfl ?_
      refine O_y hs (Y_not rfl ?_)
      refine O_nil (T_kp [0, 2, 4, 35, 36, 62] rfl ?_)
      refine T_condF rfl (T_skip ?_)
      refine T_region rfl ?_
      refine O_y hs (Y_add (c := ((k + 1 : Nat) : Int)) rfl rfl (by omega) (by omega) ?_)
      refine O_m rfl ?_
      have hs := hs.f4
      have hs := hs.f3
      have hs := hs.f3
      have hs := hs.f3
      refine O_nil ⟨_, ?_, [(0, _), (2, _), (4, _), (35, _), (36, _)], ⟨rfl, rfl, rfl, rfl, rfl, trivial⟩, ⟨k + 1, orL T (afterB b.length (endsN l b L) T), es3, clk3, rt, _, by omega, by rw [orL_len _ _ (by omega)]; exact hTl, by rw [hrnd, rounds_go (by omega) (hc2 h61)]; congr 1, hM3, hX2.trans hX3, rfl, rfl, hs.weak hs.le (Ghost.le.refl _) (List.sublist_append_left [_, _, _, _] _)⟩⟩
      omega
   ·
    dsimp only [cmpP] at h37
    refine O_nil (T_kp [0, 2, 4, 35, 36, 37] rfl ?_)
    refine T_seq (T_condF rfl (T_exit ?_))
    refine T_seq (T_region rfl ?_)
    refine O_m rfl ?_
    refine O_a rfl ?_
    refine O_nil (T_kp [6] rfl ?_)
    refine T_ret ?_
    have hs := hs.f2
    have hs := hs.f2
    have hs := hs.f2
    refine Rt_fin (vs := [_]) Tryz.results83 rfl ⟨rfl, trivial⟩ ?_
    try dsimp only [tup]
    obtain rfl : k = roundsN b.length mn mx := by omega
    rw [Nat.sub_self] at hrnd
    have hfin : timesB b.length (endsN l b L) mn mx S = T := by rw [hK, hrnd]; rfl
    exact ⟨_, _, hs.weak hs.le (Ghost.le.refl _) (List.sublist_append_left [_, _, _] _), es2, clk2, rt, by rw [hfin], rfl, hM2, hX2⟩
  ·
   dsimp only [cmpP] at h28
   refine O_nil (T_kp [0, 2, 4, 7, 28] rfl ?_)
   refine T_condF rfl (T_skip ?_)
   have hRn : (mx - mn) = ((roundsN b.length mn mx : Nat) : Int) := by unfold roundsN; rw [if_neg (by omega)]; omega
   rw [hRn]
   obtain rfl : k = mn.toNat := by omega
   rw [Nat.sub_self] at hmin
   have hK : timesB b.length (endsN l b L) mn mx S = roundsB b.length (endsN l b L) (roundsN b.length mn mx) T := by unfold timesB roundsN; rw [hmin]; rfl
   have hRb : roundsN b.length mn mx ≤ 2000001 := by omega
   refine T_seq (T_seq (T_region rfl ?_))
   refine O_m rfl ?_
   refine O_m rfl ?_
   refine O_nil (T_kp [0, 2, 4, 35, 36] rfl ?_)
   have hs := hs.f3
   have hs := hs.f3
   have hs := hs.f3
   have hs := hs.f3
   obtain ⟨T0, hT0⟩ : ∃ T0, T0 = T := ⟨_, rfl⟩
   rw [← hT0] at hK
   refine T_block (T_loop (fun m E w => ∃ (k : Nat) (T : List Bool) (es2 : List MapEntry) (clk2 rt : Nat) (G' : Ghost), k ≤ roundsN b.length mn mx ∧ T.length = b.length + 1 ∧ roundsB b.length (endsN l b L) (roundsN b.length mn mx) T0 = roundsB b.length (endsN l b L) (roundsN b.length mn mx - k) T ∧ Memo l b G' es2 ∧ Ext (L + 1) es es2 ∧ m = roundsN b.length mn mx - k ∧ E = ⟨[], [(0, .pointer (some ⟨p, 0, none⟩)), (2, .slice (some ⟨rt, 0, none⟩) (b.length + 1) (b.length + 1)), (4, .pointer (some ⟨b4, 0, none⟩)), (35, .int .i64 ((roundsN b.length mn mx : Nat) : Int)), (36, .int .i64 (k : Int))]⟩ ∧ St ⟨w0, G, feet [.blk p 74 [nv, wv, .map (some mb)], .obj mb (.map (List.toArray es) clk), .row 4 1 (.slice (some ⟨rs, 0, none⟩) (b.length + 1) (b.length + 1)) (b.length + 1) (List.map boolV S)]⟩ G' [.blk p 74 [nv, wv, .map (some mb)], .obj mb (.map (List.toArray es2) clk2), .row 4 1 (.slice (some ⟨rt, 0, none⟩) (b.length + 1) (b.length + 1)) (b.length + 1) (List.map boolV T), .blk b4 42 [.int .i64 kd, u64V c0, u64V c1, u64V c2, u64V c3, .int .i64 (L : Int), .int .i64 rr, .int .i64 mn, .int .i64 mx]] w) (L := [(0, _), (2, _), (4, _), (35, _), (36, _)]) ⟨rfl, rfl, rfl, rfl, rfl, trivial⟩ (⟨0, T, es2, clk2, rt, _, by omega, hTl, by rw [hT0]; rfl, hM2, hX2, rfl, rfl, hs⟩) fun m E w hI => ?_)
   obtain ⟨k, T, es2, clk2, rt, G', hk, hTl, hrnd, hM2, hX2, rfl, rfl, hs⟩ := hI
   have hx := hx0.mono hs.le
   have hw := hw0.mono hs.le
   refine T_seq (T_region rfl ?_)
   refine O_y hs (Y_cmpS rfl rfl rfl (fun h37 => ?_) (fun h37 => ?_))
   ·
    dsimp only [cmpP] at h37
    refine O_nil (T_kp [0, 2, 4, 35, 36, 37] rfl ?_)
    refine T_seq (T_condT rfl (T_skip ?_))
    refine T_seq (T_block (T_seq (T_region rfl ?_)))
    refine O_a rfl ?_
    refine O_nil (T_kp [0, 2, 4, 8, 35, 36] rfl ?_)
    refine T_seq (T_seq (T_region rfl ?_))
    refine O_m rfl ?_
    refine O_y hs (Y_fieldAddr FO42_2 rfl (m := 5) rfl ?_)
    refine O_y hs (Y_ld 3 Tryz.isAgg3 rfl rfl rfl ?_)
    refine O_m rfl ?_
    have hs := hs.f2
    have hs := hs.f2
    have hs := hs.f2
    refine O_s (S_call (H1 := [_, _, _]) hs rfl Tryz.func82 rfl (by kernel_rfl) (aft2' (es := es2) (S := T) hE hx hw hM2 hTl hbl) fun v3 G' H' _ hR hG42 hs => ?_)
    obtain ⟨es3, clk3, rb42, rfl, rfl, hM3, hX3⟩ := hR
    replace hs : St _ _ [_, _, _, _, _] _ := hs
    replace hx := hx.mono hG42
    replace hw := hw.mono hG42
    refine O_y hs (Y_len Tryz.underlying75 rfl ?_)
    refine O_m rfl ?_
    refine O_nil (T_kp [0, 2, 4, 8, 35, 36, 42, 43, 44] rfl ?_)
    have hs := hs.f4
    have hs := hs.f3
    have hs := hs.f4
    have hs := hs.f4
    have hs := hs.f4
    have haf := after_len l b L T
    refine T_block (T_loop (fun m E w => ∃ (j : Nat) (ch : Bool) (G' : Ghost), j ≤ b.length + 1 ∧ (ch = false → mixL T (afterB b.length (endsN l b L) T) j = T) ∧ (ch = true → ¬ orL T (afterB b.length (endsN l b L) T) = T) ∧ Memo l b G' es3 ∧ m = b.length + 1 - j ∧ E = ⟨[], [(0, .pointer (some ⟨p, 0, none⟩)), (2, .slice (some ⟨rt, 0, none⟩) (b.length + 1) (b.length + 1)), (4, .pointer (some ⟨b4, 0, none⟩)), (8, .bool ch), (35, .int .i64 ((roundsN b.length mn mx : Nat) : Int)), (36, .int .i64 (k : Int)), (42, .slice (some ⟨rb42, 0, none⟩) (b.length + 1) (b.length + 1)), (43, .int .i64 (((b.length + 1) : Nat) : Int)), (44, .int .i64 (j : Int))]⟩ ∧ St ⟨w0, G, feet [.blk p 74 [nv, wv, .map (some mb)], .obj mb (.map (List.toArray es) clk), .row 4 1 (.slice (some ⟨rs, 0, none⟩) (b.length + 1) (b.length + 1)) (b.length + 1) (List.map boolV S)]⟩ G' [.blk p 74 [nv, wv, .map (some mb)], .obj mb (.map (List.toArray es3) clk3), .row 4 1 (.slice (some ⟨rt, 0, none⟩) (b.length + 1) (b.length + 1)) (b.length + 1) (List.map boolV (mixL T (afterB b.length (endsN l b L) T) j)), .row 4 1 (.slice (some ⟨rb42, 0, none⟩) (b.length + 1) (b.length + 1)) (b.length + 1) (List.map boolV (afterB b.length (endsN l b L) T)), .blk b4 42 [.int .i64 kd, u64V c0, u64V c1, u64V c2, u64V c3, .int .i64 (L : Int), .int .i64 rr, .int .i64 mn, .int .i64 mx]] w) (L := [(0, _), (2, _), (4, _), (8, _), (35, _), (36, _), (42, _), (43, _), (44, _)]) ⟨rfl, rfl, rfl, rfl, rfl, rfl, rfl, rfl, rfl, trivial⟩ (⟨0, false, _, by omega, fun _ => rfl, fun h => (by cases h), hM3, rfl, rfl, hs⟩) fun m E w hI => ?_)
    obtain ⟨j, ch, G', hj, hc1, hc2, hM3, rfl, rfl, hs⟩ := hI
    have hx := hx0.mono hs.le
    have hw := hw0.mono hs.le
    refine T_seq (T_region rfl ?_)
    refine O_y hs (Y_cmpS rfl rfl rfl (fun h45 => ?_) (fun h45 => ?_))
    ·
     dsimp only [cmpP] at h45
     refine O_nil (T_kp [0, 2, 4, 8, 35, 36, 42, 43, 44, 45] rfl ?_)
     refine T_seq (T_condT rfl (T_skip ?_))
     refine T_seq (T_block (T_seq (T_region rfl ?_)))
     refine O_m rfl ?_
     refine O_y hs (Y_idxRow (j) Tryz.underlying75 Tryz.sizeOf4 rfl rfl rfl (by omega) ?_)
     refine O_y hs (Y_ldRow 3 rfl Tryz.isAgg4 rfl (bool_row (by omega)) ?_)
     refine O_a rfl ?_
     refine O_a rfl ?_
     refine O_nil (T_kp [0, 2, 4, 8, 9, 10, 35, 36, 42, 43, 44] rfl ?_)
     refine T_seq (T_region rfl ?_)
     cases h49 : (afterB b.length (endsN l b L) T)[j]'(by omega)
     ·
      refine O_m rfl ?_
      refine O_m rfl ?_
      refine O_no 50 rfl rfl ?_
      refine O_no 50 rfl rfl ?_
      refine O_no 50 rfl rfl ?_
      refine O_no 50 rfl rfl ?_
      cases h55 : T[j]'(by omega)
      ·
       refine O_no 50 rfl rfl ?_
       refine O_y hs (Y_pickF rfl rfl ?_)
       refine O_nil (T_kp [0, 2, 4, 8, 9, 35, 36, 42, 43, 44, 56] rfl ?_)
       refine T_condF rfl (T_skip ?_)
       refine T_region rfl ?_
       refine O_y hs (Y_add (c := ((j + 1 : Nat) : Int)) rfl rfl (by omega) (by omega) ?_)
       refine O_m rfl ?_
       have hs := hs.f4
       have hs := hs.f4
       have hs := hs.f4
       have hs := hs.f4
       have hs := hs.f4
       have hsm := mix_same (show T.length = (afterB b.length (endsN l b L) T).length by omega) (show j < T.length by omega) (by rw [h49, Bool.or_false])
       refine O_nil ⟨_, ?_, [(0, _), (2, _), (4, _), (8, _), (35, _), (36, _), (42, _), (43, _), (44, _)], ⟨rfl, rfl, rfl, rfl, rfl, rfl, rfl, rfl, rfl, trivial⟩, ⟨j + 1, ch, _, by omega, fun h => by rw [hsm]; exact hc1 h, hc2, hM3, rfl, rfl, by rw [hsm]; exact hs⟩⟩
       omega
      ·
       refine O_no 50 rfl rfl ?_
       refine O_y hs (Y_pickF rfl rfl ?_)
       refine O_nil (T_kp [0, 2, 4, 8, 9, 35, 36, 42, 43, 44, 56] rfl ?_)
       refine T_condF rfl (T_skip ?_)
       refine T_region rfl ?_
       refine O_y hs (Y_add (c := ((j + 1 : Nat) : Int)) rfl rfl (by omega) (by omega) ?_)
       refine O_m rfl ?_
       have hs := hs.f4
       have hs := hs.f4
       have hs := hs.f4
       have hs := hs.f4
       have hs := hs.f4
       have hsm := mix_same (show T.length = (afterB b.length (endsN l b L) T).length by omega) (show j < T.length by omega) (by rw [h49, Bool.or_false])
       refine O_nil ⟨_, ?_, [(0, _), (2, _), (4, _), (8, _), (35, _), (36, _), (42, _), (43, _), (44, _)], ⟨rfl, rfl, rfl, rfl, rfl, rfl, rfl, rfl, rfl, trivial⟩, ⟨j + 1, ch, _, by omega, fun h => by rw [hsm]; exact hc1 h, hc2, hM3, rfl, rfl, by rw [hsm]; exact hs⟩⟩
       omega
     ·
      refine O_m rfl ?_
      refine O_m rfl ?_
      refine O_yy 50 hs rfl rfl (Y_move rfl ?_)
      refine O_yy 50 hs rfl rfl (Y_move rfl ?_)
      refine O_yy 50 hs rfl rfl (Y_idxRow (j) Tryz.underlying75 Tryz.sizeOf4 rfl rfl rfl (by omega) ?_)
      refine O_yy 50 hs rfl rfl (Y_ldRow 2 rfl Tryz.isAgg4 rfl (mix_row (by omega) (by omega)) ?_)
      cases h55 : T[j]'(by omega)
      ·
       refine O_yy 50 hs rfl rfl (Y_not rfl ?_)
       refine O_y hs (Y_pickT rfl rfl ?_)
       refine O_nil (T_kp [0, 2, 4, 8, 9, 35, 36, 42, 43, 44, 56] rfl ?_)
       refine T_condT rfl (T_region rfl ?_)
       refine O_m rfl ?_
       refine O_m rfl ?_
       refine O_y hs (Y_idxRow (j) Tryz.underlying75 Tryz.sizeOf4 rfl rfl rfl (by omega) ?_)
       have hs := hs.f2
       refine O_n (S_stRow hs Tryz.sizeOf4 rfl rfl rfl (by omega) fun _ hs => ?_)
       refine O_a rfl ?_
       refine O_nil (T_kp [0, 2, 4, 8, 35, 36, 42, 43, 44] rfl ?_)
       refine T_region rfl ?_
       refine O_y hs (Y_add (c := ((j + 1 : Nat) : Int)) rfl rfl (by omega) (by omega) ?_)
       refine O_m rfl ?_
       have hs := hs.f4
       have hs := hs.f4
       have hs := hs.f2
       have hs := hs.f4
       have hs := hs.f4
       refine O_nil ⟨_, ?_, [(0, _), (2, _), (4, _), (8, _), (35, _), (36, _), (42, _), (43, _), (44, _)], ⟨rfl, rfl, rfl, rfl, rfl, rfl, rfl, rfl, rfl, trivial⟩, ⟨j + 1, true, _, by omega, fun h => (by cases h), fun _ => or_ne (by omega) (show j < T.length by omega) h55 h49, hM3, rfl, rfl, by rw [← mix_set (show T.length = (afterB b.length (endsN l b L) T).length by omega) (show j < T.length by omega) (x := true) (by rw [h55, h49]; rfl)]; exact hs⟩⟩
       omega
      ·
       refine O_yy 50 hs rfl rfl (Y_not rfl ?_)
       refine O_y hs (Y_pickT rfl rfl ?_)
       refine O_nil (T_kp [0, 2, 4, 8, 9, 35, 36, 42, 43, 44, 56] rfl ?_)
       refine T_condF rfl (T_skip ?_)
       refine T_region rfl ?_
       refine O_y hs (Y_add (c := ((j + 1 : Nat) : Int)) rfl rfl (by omega) (by omega) ?_)
       refine O_m rfl ?_
       have hs := hs.f4
       have hs := hs.f4
       have hs := hs.f4
       have hs := hs.f4
       have hs := hs.f4
       have hsm := mix_same (show T.length = (afterB b.length (endsN l b L) T).length by omega) (show j < T.length by omega) (by rw [h55]; rfl)
       refine O_nil ⟨_, ?_, [(0, _), (2, _), (4, _), (8, _), (35, _), (36, _), (42, _), (43, _), (44, _)], ⟨rfl, rfl, rfl, rfl, rfl, rfl, rfl, rfl, rfl, trivial⟩, ⟨j + 1, ch, _, by omega, fun h => by rw [hsm]; exact hc1 h, hc2, hM3, rfl, rfl, by rw [hsm]; exact hs⟩⟩
       omega
    ·
     dsimp only [cmpP] at h45
     refine O_nil (T_kp [0, 2, 4, 8, 35, 36, 42, 43, 44, 45] rfl ?_)
     refine T_seq (T_condF rfl (T_exit ?_))
     obtain rfl : j = b.length + 1 := by omega
     have hma : mixL T (afterB b.length (endsN l b L) T) (b.length + 1) = orL T (afterB b.length (endsN l b L) T) := by rw [← hTl]; exact mix_all (by omega)
     rw [hma] at hs hc1
     refine T_seq (T_region rfl ?_)
     cases h61 : ch
     ·
      refine O_m rfl ?_
      refine O_y hs (Y_not rfl ?_)
      refine O_nil (T_kp [0, 2, 4, 35, 36, 62] rfl ?_)
      refine T_condT rfl (T_exit ?_)
      refine T_seq (T_region rfl ?_)
      refine O_m rfl ?_
      refine O_a rfl ?_
      refine O_nil (T_kp [6] rfl ?_)
      refine T_ret ?_
      have hs := hs.f2
      have hs := hs.f2
      have hs := hs.f2
      refine Rt_fin (vs := [_]) Tryz.results83 rfl ⟨rfl, trivial⟩ ?_
      try dsimp only [tup]
      have hfin : timesB b.length (endsN l b L) mn mx S = orL T (afterB b.length (endsN l b L) T) := by rw [hK]; rw [hrnd, rounds_stop (by omega) (hc1 h61), hc1 h61]
      exact ⟨_, _, hs.weak hs.le (Ghost.le.refl _) (List.sublist_append_left [_, _, _] _), es3, clk3, rt, by rw [hfin], rfl, hM3, hX2.trans hX3⟩
     ·
      refine O_m rfl ?_
      refine O_y hs (Y_not rfl ?_)
      refine O_nil (T_kp [0, 2, 4, 35, 36, 62] rfl ?_)
      refine T_condF rfl (T_skip ?_)
      refine T_region rfl ?_
      refine O_y hs (Y_add (c := ((k + 1 : Nat) : Int)) rfl rfl (by omega) (by omega) ?_)
      refine O_m rfl ?_
      have hs := hs.f4
      have hs := hs.f3
      have hs := hs.f3
      have hs := hs.f3
      refine O_nil ⟨_, ?_, [(0, _), (2, _), (4, _), (35, _), (36, _)], ⟨rfl, rfl, rfl, rfl, rfl, trivial⟩, ⟨k + 1, orL T (afterB b.length (endsN l b L) T), es3, clk3, rt, _, by omega, by rw [orL_len _ _ (by omega)]; exact hTl, by rw [hrnd, rounds_go (by omega) (hc2 h61)]; congr 1, hM3, hX2.trans hX3, rfl, rfl, hs.weak hs.le (Ghost.le.refl _) (List.sublist_append_left [_, _, _, _] _)⟩⟩
      omega
   ·
    dsimp only [cmpP] at h37
    refine O_nil (T_kp [0, 2, 4, 35, 36, 37] rfl ?_)
    refine T_seq (T_condF rfl (T_exit ?_))
    refine T_seq (T_region rfl ?_)
    refine O_m rfl ?_
    refine O_a rfl ?_
    refine O_nil (T_kp [6] rfl ?_)
    refine T_ret ?_
    have hs := hs.f2
    have hs := hs.f2
    have hs := hs.f2
    refine Rt_fin (vs := [_]) Tryz.results83 rfl ⟨rfl, trivial⟩ ?_
    try dsimp only [tup]
    obtain rfl : k = roundsN b.length mn mx := by omega
    rw [Nat.sub_self] at hrnd
    have hfin : timesB b.length (endsN l b L) mn mx S = T := by rw [hK, hrnd]; rfl
    exact ⟨_, _, hs.weak hs.le (Ghost.le.refl _) (List.sublist_append_left [_, _, _] _), es2, clk2, rt, by rw [hfin], rfl, hM2, hX2⟩

def CmpC (l : List NodeV) (b : List UInt8) (i : Nat) : Prop := ∀ (G : Ghost) (p mb clk : Nat) (nv wv : Value) (es : List MapEntry) (f : Nat), Rx G nv l → Bytes G wv b → Memo l b G es → f ≤ b.length →
  FnOk Tryz.prog 62 [.pointer (some ⟨p, 0, none⟩), .agg (nodeC (nodeAt l i)).toArray, .int .i64 (f : Int)] G [.blk p 74 [nv, wv, .map (some mb)], .obj mb (.map (List.toArray es) clk)] fun r G' H' => ∃ es' clk', H' = [.blk p 74 [nv, wv, .map (some mb)], .obj mb (.map (List.toArray es') clk')] ∧ Memo l b G' es' ∧ Ext i es es' ∧ Bools G' r (endsN l b i f)


set_option maxHeartbeats 1000000 in
set_option maxRecDepth 10000 in
theorem ends_ok {l : List NodeV} {b : List UInt8} {i : Nat} (hi : i < l.length) (hC : CmpC l b i) : EndsC l b i := by
 intro G p mb clk nv wv es f hx hw hM hf
 refine FnOk.of_T [(0, _), (1, _), (2, _)] Tryz.func42 rfl Tryz.ntmps42 (by simp) rfl fun w0 hs => ?_
 have hx0 := hx
 have hw0 := hw
 have hM0 := hM
 refine T_seq (T_region rfl ?_)
 refine O_a rfl ?_
 refine O_nil (T_kp [0, 1, 2] rfl ?_)
 refine T_seq (T_region rfl ?_)
 refine O_m rfl ?_
 refine O_m rfl ?_
 refine O_y hs (Y_build Tryz.zeroValue99 rfl PL99 rfl (cs := [_, _]) rfl ?_)
 refine O_s (S_alloc hs Tryz.zeroValue99 (cs := [_, _]) rfl fun b7 _ hs => ?_)
 refine O_n (S_stA hs Tryz.sizeOf99 rfl rfl (vs := [_, _]) rfl (rfl) (by simp) (cs' := [_, _]) rfl fun _ hs => ?_)
 refine O_nil (T_kp [0, 1, 2, 7] rfl ?_)
 refine T_seq (T_seq (T_drawS [0, 1, 2, 3, 4, 5, 6, 7, 8, 9, 10] hs (by kernel_rfl) ?_))
 replace hs := hs.drew
 refine A_take 0 rfl (by kernel_rfl) rfl hs (Y_move rfl ?_)
 refine A_take 1 rfl (by kernel_rfl) rfl hs (Y_nil rfl ?_)
 refine A_take 2 rfl (by kernel_rfl) rfl hs (Y_fieldAddr FO74_2 rfl (m := 2) rfl ?_)
 refine A_take 3 rfl (by kernel_rfl) rfl hs (Y_ld 1 Tryz.isAgg72 rfl rfl rfl ?_)
 refine A_take 4 rfl (by kernel_rfl) rfl hs (Y_ldA 0 Tryz.isAgg99 Tryz.sizeOf99 rfl rfl (vs := [_, _]) rfl rfl ?_)
 refine A_take 5 rfl (by kernel_rfl) rfl hs (Y_lookup2 2 rfl Tryz.underlying72 key2 Tryz.zeroValue75 hM.keys rfl rfl (fun hno => ?_) (fun e he hk => ?_))
 ·
  refine A_take 6 rfl (by kernel_rfl) rfl hs (Y_move rfl ?_)
  refine A_take 7 rfl (by kernel_rfl) rfl hs (Y_extract rfl rfl ?_)
  refine A_take 8 rfl (by kernel_rfl) rfl hs (Y_extract rfl rfl ?_)
  refine A_take 9 rfl (by kernel_rfl) rfl hs (Y_assign rfl ?_)
  refine A_take 10 rfl (by kernel_rfl) rfl hs (Y_assign rfl ?_)
  refine A_done (by kernel_rfl) (T_kp [0, 1, 2, 7, 8, 9] rfl ?_)
  refine T_seq (T_region rfl ?_)
  refine O_m rfl ?_
  refine O_nil (T_kp [0, 1, 2, 7, 8, 23] rfl ?_)
  refine T_condF rfl (T_skip ?_)
  refine T_seq (T_region rfl ?_)
  refine O_m rfl ?_
  refine O_m rfl ?_
  refine O_y hs (Y_nil rfl ?_)
  refine O_y hs (Y_fieldAddr FO74_0 rfl (m := 0) rfl ?_)
  refine O_y hs (Y_ld 1 Tryz.isAgg24 rfl rfl rfl ?_)
  refine O_m rfl ?_
  refine O_y hs (Y_idxS hx i Tryz.underlying24 Tryz.sizeOf42 rfl rfl rfl (by omega) fun p31 c31 hp31 hc31 hR31 => ?_)
  rw [hR31.1] at hp31
  refine O_y hs (Y_ldAG (vs := nodeC l[i]) Tryz.isAgg42 Tryz.sizeOf42 rfl hp31 (nodeC_len hR31.2) ?_)
  refine O_m rfl ?_
  have hs := hs.f2
  have hs := hs.f2
  refine O_s (S_call (H1 := [_, _]) hs rfl Tryz.func62 rfl (by kernel_rfl) ((by have h := hC _ p mb clk nv wv es f hx hw hM hf; rw [nodeAt_get hi] at h; exact h)) fun v1 G' H' _ hR hG34 hs => ?_)
  obtain ⟨es2, clk2, rfl, hM2, hX2, hB2⟩ := hR
  replace hs : St _ _ [_, _, _] _ := hs
  replace hx := hx.mono hG34
  replace hw := hw.mono hG34
  replace hM := hM.mono hG34
  refine O_a rfl ?_
  refine O_nil (T_kp [0, 7, 10] rfl ?_)
  refine T_seq (T_drawS [0, 1, 2, 3, 4, 5] hs (by kernel_rfl) ?_)
  replace hs := hs.drew
  refine A_take 0 rfl (by kernel_rfl) rfl hs (Y_move rfl ?_)
  refine A_take 1 rfl (by kernel_rfl) rfl hs (Y_nil rfl ?_)
  refine A_take 2 rfl (by kernel_rfl) rfl hs (Y_fieldAddr FO74_2 rfl (m := 2) rfl ?_)
  refine A_take 3 rfl (by kernel_rfl) rfl hs (Y_ld 0 Tryz.isAgg72 rfl rfl rfl ?_)
  refine A_take 4 rfl (by kernel_rfl) rfl hs (Y_ldA 2 Tryz.isAgg99 Tryz.sizeOf99 rfl rfl (vs := [_, _]) rfl rfl ?_)
  refine A_take 5 rfl (by kernel_rfl) rfl hs (Y_move rfl ?_)
  have hs := hs.f1
  refine A_tailN 6 rfl (by kernel_rfl) (by kernel_rfl) rfl (S_mapPut2 hs Tryz.underlying72 key2 hM2.keys rfl rfl rfl (hX2.absent hno) fun _ hs => ?_)
  refine A_done (by kernel_rfl) (T_kp [10] rfl ?_)
  refine T_seq (T_region rfl ?_)
  refine O_m rfl ?_
  refine O_a rfl ?_
  refine O_nil (T_kp [6] rfl ?_)
  refine T_ret ?_
  have hs := hs.f1
  refine Rt_fin (vs := [_]) Tryz.results42 rfl ⟨rfl, trivial⟩ ?_
  try dsimp only [tup]
  exact ⟨_, _, hs.weak hs.le (Ghost.le.refl _) (List.sublist_append_left [_, _] _), _, _, rfl, hM2.push hf hB2, hX2.push, hB2⟩
 ·
  refine A_take 6 rfl (by kernel_rfl) rfl hs (Y_move rfl ?_)
  refine A_take 7 rfl (by kernel_rfl) rfl hs (Y_extract rfl rfl ?_)
  refine A_take 8 rfl (by kernel_rfl) rfl hs (Y_extract rfl rfl ?_)
  refine A_take 9 rfl (by kernel_rfl) rfl hs (Y_assign rfl ?_)
  refine A_take 10 rfl (by kernel_rfl) rfl hs (Y_assign rfl ?_)
  refine A_done (by kernel_rfl) (T_kp [0, 1, 2, 7, 8, 9] rfl ?_)
  refine T_seq (T_region rfl ?_)
  refine O_m rfl ?_
  refine O_nil (T_kp [0, 1, 2, 7, 8, 23] rfl ?_)
  refine T_condT rfl (T_seq (T_region rfl ?_))
  refine O_m rfl ?_
  refine O_a rfl ?_
  refine O_nil (T_kp [6] rfl ?_)
  refine T_ret ?_
  have hs := hs.f2
  have hs := hs.f2
  refine Rt_fin (vs := [_]) Tryz.results42 rfl ⟨rfl, trivial⟩ ?_
  try dsimp only [tup]
  exact ⟨_, _, hs.weak hs.le (Ghost.le.refl _) (List.sublist_append_left [_, _] _), es, clk, rfl, hM, Ext.refl _ _, hM.at he hk⟩

set_option maxHeartbeats 400000 in
set_option maxRecDepth 10000 in
theorem has_ok {G : Ghost} {c : List Nat} {x : UInt8} (hc : c.length = 4) :
  FnOk Tryz.prog 81 [ClsV c, .int .u8 (x.toNat : Int)] G [] fun r _ H' => H' = [] ∧ r = .bool (hasF c x) := by
 have hx := x.toNat_lt
 have hcell : (c.map u64V)[x.toNat / 64]? = some (u64V (c.getD (x.toNat / 64) 0)) := by rw [List.getElem?_map, List.getElem?_eq_getElem (by omega), List.getD_eq_getElem?_getD, List.getElem?_eq_getElem (by omega)]; rfl
 refine FnOk.of_T [(0, _), (1, _)] Tryz.func81 rfl Tryz.ntmps81 (by simp) rfl fun w0 hs => ?_
 refine T_seq (T_region rfl ?_)
 refine O_s (S_box hs rfl (cs := (List.map u64V c)) rfl fun b2 _ hs => ?_)
 refine O_a rfl ?_
 refine O_nil (T_kp [1, 2] rfl ?_)
 refine T_seq (T_region rfl ?_)
 refine O_m rfl ?_
 refine O_y hs (Y_quoU (c := ((x.toNat / 64 : Nat) : Int)) rfl rfl (by omega) (by omega) (by omega) ?_)
 refine O_y hs (Y_idxArr' (x.toNat / 64) Tryz.underlying40 Tryz.sizeOf38 rfl rfl rfl (by omega) ?_)
 refine O_y hs (Y_ld 0 Tryz.isAgg38 rfl rfl hcell ?_)
 refine O_m rfl ?_
 refine O_y hs (Y_rem (c := ((x.toNat % 64 : Nat) : Int)) rfl rfl (by omega) (by omega) (by omega) ?_)
 refine O_y hs (Y_shl1 (x.toNat % 64) (by omega) rfl rfl ?_)
 refine O_y hs (Y_and64 rfl rfl ?_)
 refine O_y hs (Y_cmpB (t := hasF c x) rfl rfl rfl (has_iff c x) ?_)
 refine O_a rfl ?_
 refine O_nil (T_kp [4] rfl ?_)
 refine T_ret ?_
 refine Rt_fin (vs := [_]) Tryz.results81 rfl ⟨rfl, trivial⟩ ?_
 try dsimp only [tup]
 exact ⟨_, [], hs.done, rfl, rfl⟩

set_option maxHeartbeats 4000000 in
set_option maxRecDepth 10000 in
theorem cmp_ok {l : List NodeV} {b : List UInt8} {i : Nat} (hi : i < l.length) (he : errF 0 l = 0) (hcls : ∀ n ∈ l, ClsOk n.c) (hbl : b.length ≤ 2000000) (ih : ∀ j, j < i → EndsC l b j) : CmpC l b i := by
 intro G p mb clk nv wv es f hx hw hM hf
 have hne := err_at (l := l) 0 he i hi (Nat.zero_le _)
 have hco := hcls l[i] (List.getElem_mem _)
 have hzl := endsN_len l b i f
 rw [nodeAt_get hi]
 obtain ⟨nk, hnk⟩ : ∃ n, n = l[i] := ⟨_, rfl⟩
 rw [← hnk] at hne hco ⊢
 obtain ⟨kd, cc, ll, rr, mn, mx⟩ := nk
 obtain ⟨c0, c1, c2, c3, rfl⟩ := four_of hco.1
 have hop := nodeE_ops hne
 have hkd := nodeE_kind hne
 dsimp only at hkd
 show FnOk Tryz.prog 62 [.pointer (some ⟨p, 0, none⟩), .agg #[.int .i64 kd, u64V c0, u64V c1, u64V c2, u64V c3, .int .i64 ll, .int .i64 rr, .int .i64 mn, .int .i64 mx], .int .i64 (f : Int)] G [.blk p 74 [nv, wv, .map (some mb)], .obj mb (.map (List.toArray es) clk)] _
 refine FnOk.of_T [(0, _), (1, _), (2, _)] Tryz.func62 rfl Tryz.ntmps62 (by simp) rfl fun w0 hs => ?_
 have hx0 := hx
 have hw0 := hw
 have hM0 := hM
 refine T_seq (T_region rfl ?_)
 refine O_s (S_box hs rfl (cs := [_, _, _, _, _, _, _, _, _]) rfl fun b4 _ hs => ?_)
 refine O_a rfl ?_
 refine O_nil (T_kp [0, 2, 4] rfl ?_)
 refine T_seq (T_region rfl ?_)
 refine O_m rfl ?_
 refine O_y hs (Y_nil rfl ?_)
 refine O_y hs (Y_fieldAddr FO74_1 rfl (m := 1) rfl ?_)
 refine O_y hs (Y_ld 1 Tryz.isAgg30 rfl rfl rfl ?_)
 refine O_y hs (Y_lenB Tryz.underlying30 hw rfl ?_)
 refine O_y hs (Y_add (c := ((b.length + 1 : Nat) : Int)) rfl rfl (by omega) (by omega) ?_)
 refine O_s (S_make (n := (b.length + 1)) (m := (b.length + 1)) hs Tryz.underlying75 TI4 rfl rfl rfl (by omega) (by omega) (by omega) fun b19 _ hs => ?_)
 refine O_a rfl ?_
 refine O_nil (T_kp [0, 2, 4, 7] rfl ?_)
 refine T_seq (T_seq (T_region rfl ?_))
 refine O_y hs (Y_fieldAddr FO42_0 rfl (m := 0) rfl ?_)
 refine O_y hs (Y_ld 1 Tryz.isAgg3 rfl rfl rfl ?_)
 refine O_nil (T_kp [0, 2, 4, 7, 21] rfl ?_)
 refine T_block (T_seq (T_region rfl ?_))
 refine O_y hs (Y_cmpS rfl rfl rfl (fun h23 => ?_) (fun h23 => ?_))
 ·
  dsimp only [cmpP] at h23
  refine O_a rfl ?_
  refine O_nil (T_kp [0, 2, 4, 7, 21, 22] rfl ?_)
  refine T_condT rfl (T_region rfl ?_)
  refine O_m rfl ?_
  refine O_m rfl ?_
  refine O_y hs (Y_idxRow (f) Tryz.underlying75 Tryz.sizeOf4 rfl rfl rfl (by omega) ?_)
  refine O_n (S_stRow hs Tryz.sizeOf4 rfl rfl rfl (by omega) fun _ hs => ?_)
  refine O_nil (T_kp [7] rfl ?_)
  refine T_seq (T_region rfl ?_)
  refine O_m rfl ?_
  refine O_a rfl ?_
  refine O_nil (T_kp [6] rfl ?_)
  refine T_ret ?_
  have hs := hs.f3
  have hs := hs.f3
  have hs := hs.f2
  refine Rt_fin (vs := [_]) Tryz.results62 rfl ⟨rfl, trivial⟩ ?_
  try dsimp only [tup]
  replace hs := hs.weak hs.le (Ghost.le.refl _) (List.sublist_append_left [_, _, _] _)
  have hen : endsN l b i f = oneB b.length f := by have h := endsN_2 (b := b) (f := f) he hi (by rw [← hnk]; dsimp only; omega); (try rw [← hnk] at h); exact h
  rw [one_row] at hs
  obtain ⟨G9, hG9, hf9, hs⟩ := hs.fixRow (fun k hk => noMh hs ⟨fun _ h => h, fun _ h => h, trivial⟩ k hk)
  exact ⟨_, _, hs, es, clk, rfl, hM.mono hG9, Ext.refl _ _, bools_of (by rw [hen]; exact hf9) hzl.symm⟩
 ·
  dsimp only [cmpP] at h23
  refine O_a rfl ?_
  refine O_nil (T_kp [0, 2, 4, 7, 21, 22] rfl ?_)
  refine T_condF rfl (T_seq (T_region rfl ?_))
  refine O_y hs (Y_cmpS rfl rfl rfl (fun h28 => ?_) (fun h28 => ?_))
  ·
   dsimp only [cmpP] at h28
   refine O_a rfl ?_
   refine O_nil (T_kp [0, 2, 4, 7, 21, 27] rfl ?_)
   refine T_condT rfl (T_seq (T_drawS [0, 1, 2, 3, 4, 5, 6, 7, 8, 9, 10, 11, 12, 13, 14, 15, 16, 17, 18] hs (by kernel_rfl) ?_))
   replace hs := hs.drew
   refine A_take 0 rfl (by kernel_rfl) rfl hs (Y_move rfl ?_)
   refine A_take 1 rfl (by kernel_rfl) rfl hs (Y_move rfl ?_)
   refine A_take 2 rfl (by kernel_rfl) rfl hs (Y_nil rfl ?_)
   refine A_take 3 rfl (by kernel_rfl) rfl hs (Y_fieldAddr FO74_1 rfl (m := 1) rfl ?_)
   refine A_take 4 rfl (by kernel_rfl) rfl hs (Y_ld 2 Tryz.isAgg30 rfl rfl rfl ?_)
   refine A_take 5 rfl (by kernel_rfl) rfl hs (Y_lenB Tryz.underlying30 hw rfl ?_)
   refine A_take 6 rfl (by kernel_rfl) rfl hs (Y_cmpS rfl rfl rfl (fun h35 => ?_) (fun h35 => ?_))
   ·
    dsimp only [cmpP] at h35
    refine A_take 7 rfl (by kernel_rfl) rfl hs (Y_move rfl ?_)
    refine A_take 8 rfl (by kernel_rfl) rfl hs (Y_fieldAddr FO42_1 rfl (m := 1) rfl ?_)
    refine A_take 9 rfl (by kernel_rfl) rfl hs (Y_ldA 1 Tryz.isAgg40 Tryz.sizeOf40 rfl rfl (vs := [_, _, _, _]) rfl rfl ?_)
    refine A_take 10 rfl (by kernel_rfl) rfl hs (Y_move rfl ?_)
    refine A_take 11 rfl (by kernel_rfl) rfl hs (Y_nil rfl ?_)
    refine A_take 12 rfl (by kernel_rfl) rfl hs (Y_fieldAddr FO74_1 rfl (m := 1) rfl ?_)
    refine A_take 13 rfl (by kernel_rfl) rfl hs (Y_ld 2 Tryz.isAgg30 rfl rfl rfl ?_)
    refine A_take 14 rfl (by kernel_rfl) rfl hs (Y_move rfl ?_)
    refine A_take 15 rfl (by kernel_rfl) rfl hs (Y_idxB hw f Tryz.underlying30 Tryz.sizeOf5 rfl rfl rfl (by omega) fun p44 hp44 => ?_)
    refine A_take 16 rfl (by kernel_rfl) rfl hs (Y_ldG Tryz.isAgg5 rfl (hp44) ?_)
    have hle := hs.le
    refine A_only 17 rfl (by kernel_rfl) rfl (S_call (H1 := []) hs rfl Tryz.func81 rfl (by kernel_rfl) (has_ok (c := [c0, c1, c2, c3]) (x := b[f]'(by omega)) rfl) fun v1 G' H' _ hR hG46 hs => ?_)
    obtain ⟨rfl, rfl⟩ := hR
    replace hs : St _ _ [_, _, _, _] _ := hs
    replace hx := hx.mono hG46
    replace hw := hw.mono hG46
    replace hM := hM.mono hG46
    cases h46 : hasF [c0, c1, c2, c3] (b[f]'(by omega))
    ·
     refine A_moreS hs hle hG46 (List.Sublist.refl _) ?_
     refine A_take 18 rfl (by kernel_rfl) rfl hs (Y_pickT rfl rfl ?_)
     refine A_done (by kernel_rfl) (T_kp [2, 7, 47] rfl ?_)
     refine T_condF rfl (T_skip ?_)
     refine T_seq (T_region rfl ?_)
     refine O_m rfl ?_
     refine O_a rfl ?_
     refine O_nil (T_kp [6] rfl ?_)
     refine T_ret ?_
     have hs := hs.f3
     have hs := hs.f3
     have hs := hs.f2
     refine Rt_fin (vs := [_]) Tryz.results62 rfl ⟨rfl, trivial⟩ ?_
     try dsimp only [tup]
     replace hs := hs.weak hs.le (Ghost.le.refl _) (List.sublist_append_left [_, _, _] _)
     have h3 := endsN_3 (b := b) (f := f) he hi (by rw [← hnk]; dsimp only; omega)
     rw [← hnk, if_neg (by rw [List.getElem?_eq_getElem (by omega)]; simp; exact h46)] at h3
     have hen := h3
     rw [show List.replicate (b.length + 1) (Value.bool false) = List.map boolV (List.replicate (b.length + 1) false) by rw [List.map_replicate]; rfl] at hs
     obtain ⟨G9, hG9, hf9, hs⟩ := hs.fixRow (fun k hk => noMh hs ⟨fun _ h => h, fun _ h => h, trivial⟩ k hk)
     exact ⟨_, _, hs, es, clk, rfl, hM.mono hG9, Ext.refl _ _, bools_of (by rw [hen]; exact hf9) hzl.symm⟩
    ·
     refine A_moreS hs hle hG46 (List.Sublist.refl _) ?_
     refine A_take 18 rfl (by kernel_rfl) rfl hs (Y_pickT rfl rfl ?_)
     refine A_done (by kernel_rfl) (T_kp [2, 7, 47] rfl ?_)
     refine T_condT rfl (T_region rfl ?_)
     refine O_m rfl ?_
     refine O_m rfl ?_
     refine O_y hs (Y_add (c := ((f + 1 : Nat) : Int)) rfl rfl (by omega) (by omega) ?_)
     refine O_y hs (Y_idxRow ((f + 1)) Tryz.underlying75 Tryz.sizeOf4 rfl rfl rfl (by omega) ?_)
     refine O_n (S_stRow hs Tryz.sizeOf4 rfl rfl rfl (by omega) fun _ hs => ?_)
     refine O_nil (T_kp [7] rfl ?_)
     refine T_seq (T_region rfl ?_)
     refine O_m rfl ?_
     refine O_a rfl ?_
     refine O_nil (T_kp [6] rfl ?_)
     refine T_ret ?_
     have hs := hs.f3
     have hs := hs.f3
     have hs := hs.f2
     refine Rt_fin (vs := [_]) Tryz.results62 rfl ⟨rfl, trivial⟩ ?_
     try dsimp only [tup]
     replace hs := hs.weak hs.le (Ghost.le.refl _) (List.sublist_append_left [_, _, _] _)
     have h3 := endsN_3 (b := b) (f := f) he hi (by rw [← hnk]; dsimp only; omega)
     rw [← hnk, if_pos (by rw [List.getElem?_eq_getElem (by omega)]; exact h46)] at h3
     have hen := h3
     rw [one_row] at hs
     obtain ⟨G9, hG9, hf9, hs⟩ := hs.fixRow (fun k hk => noMh hs ⟨fun _ h => h, fun _ h => h, trivial⟩ k hk)
     exact ⟨_, _, hs, es, clk, rfl, hM.mono hG9, Ext.refl _ _, bools_of (by rw [hen]; exact hf9) hzl.symm⟩
   ·
    dsimp only [cmpP] at h35
    refine A_take 7 rfl (by kernel_rfl) rfl hs (Y_move rfl ?_)
    refine A_skip 8 rfl (by kernel_rfl) rfl hs ?_
    refine A_skip 9 rfl (by kernel_rfl) rfl hs ?_
    refine A_skip 10 rfl (by kernel_rfl) rfl hs ?_
    refine A_skip 11 rfl (by kernel_rfl) rfl hs ?_
    refine A_skip 12 rfl (by kernel_rfl) rfl hs ?_
    refine A_skip 13 rfl (by kernel_rfl) rfl hs ?_
    refine A_skip 14 rfl (by kernel_rfl) rfl hs ?_
    refine A_skip 15 rfl (by kernel_rfl) rfl hs ?_
    refine A_skip 16 rfl (by kernel_rfl) rfl hs ?_
    refine A_skip 17 rfl (by kernel_rfl) rfl hs ?_
    refine A_take 18 rfl (by kernel_rfl) rfl hs (Y_pickF rfl rfl ?_)
    refine A_done (by kernel_rfl) (T_kp [2, 7, 47] rfl ?_)
    refine T_condF rfl (T_skip ?_)
    refine T_seq (T_region rfl ?_)
    refine O_m rfl ?_
    refine O_a rfl ?_
    refine O_nil (T_kp [6] rfl ?_)
    refine T_ret ?_
    have hs := hs.f3
    have hs := hs.f3
    have hs := hs.f2
    refine Rt_fin (vs := [_]) Tryz.results62 rfl ⟨rfl, trivial⟩ ?_
    try dsimp only [tup]
    replace hs := hs.weak hs.le (Ghost.le.refl _) (List.sublist_append_left [_, _, _] _)
    have h3 := endsN_3 (b := b) (f := f) he hi (by rw [← hnk]; dsimp only; omega)
    rw [← hnk, if_neg (by rw [List.getElem?_eq_none (by omega)]; simp)] at h3
    have hen := h3
    rw [show List.replicate (b.length + 1) (Value.bool false) = List.map boolV (List.replicate (b.length + 1) false) by rw [List.map_replicate]; rfl] at hs
    obtain ⟨G9, hG9, hf9, hs⟩ := hs.fixRow (fun k hk => noMh hs ⟨fun _ h => h, fun _ h => h, trivial⟩ k hk)
    exact ⟨_, _, hs, es, clk, rfl, hM.mono hG9, Ext.refl _ _, bools_of (by rw [hen]; exact hf9) hzl.symm⟩
  ·
   dsimp only [cmpP] at h28
   refine O_a rfl ?_
   refine O_nil (T_kp [0, 2, 4, 7, 21, 27] rfl ?_)
   refine T_condF rfl (T_seq (T_region rfl ?_))
   refine O_y hs (Y_cmpS rfl rfl rfl (fun h53 => ?_) (fun h53 => ?_))
   ·
    dsimp only [cmpP] at h53
    refine O_a rfl ?_
    refine O_nil (T_kp [0, 2, 4, 7, 21, 52] rfl ?_)
    have hs := hs.f1
    have hs := hs.f1
    have hs := hs.f3
    have hs := hs.f3
    have ha := arF_2 (k := kd) (by omega)
    have hl12 := ops_l hop (by dsimp only; omega)
    dsimp only at hl12
    obtain ⟨L, rfl⟩ : ∃ L : Nat, ll = (L : Int) := Int.eq_ofNat_of_zero_le hl12.1
    have hr12 := ops_r hop (by dsimp only; omega)
    dsimp only at hr12
    obtain ⟨R, rfl⟩ : ∃ R : Nat, rr = (R : Int) := Int.eq_ofNat_of_zero_le hr12.1
    have hen : endsN l b i f = afterB b.length (endsN l b R) (endsN l b L f) := by have h := endsN_4 (b := b) (f := f) he hi (by rw [← hnk]; dsimp only; omega); (try rw [← hnk] at h); exact h
    have hs := hs.f2
    have hs := hs.f2
    have hs := hs.f2
    have hsW := hs.drop.drop.drop
    refine T_condT rfl (T_drawS [0, 1, 2, 3, 4, 5, 6, 7, 8, 9] hsW (by kernel_rfl) ?_)
    replace hs := hs.drew
    replace hsW := hsW.drew
    refine A_take 0 rfl (by kernel_rfl) rfl hsW (Y_move rfl ?_)
    refine A_take 1 rfl (by kernel_rfl) rfl hsW (Y_fieldAddr FO42_3 rfl (m := 6) rfl ?_)
    refine A_take 2 rfl (by kernel_rfl) rfl hsW (Y_ld 0 Tryz.isAgg3 rfl rfl rfl ?_)
    refine A_take 3 rfl (by kernel_rfl) rfl hsW (Y_move rfl ?_)
    refine A_take 4 rfl (by kernel_rfl) rfl hsW (Y_fieldAddr FO42_2 rfl (m := 5) rfl ?_)
    refine A_take 5 rfl (by kernel_rfl) rfl hsW (Y_ld 0 Tryz.isAgg3 rfl rfl rfl ?_)
    refine A_take 6 rfl (by kernel_rfl) rfl hsW (Y_move rfl ?_)
    have hs := hs.f1
    have hs := hs.f1
    have hle := hs.le
    refine A_only 7 rfl (by kernel_rfl) rfl (S_call (H1 := [_, _]) hs rfl Tryz.func42 rfl (by kernel_rfl) ((ih L (by omega)) _ p mb _ _ _ _ f hx hw hM hf) fun v2 G' H' _ hR hG61 hs => ?_)
    obtain ⟨es2, clk2, rfl, hM2, hX2, hB2⟩ := hR
    replace hs : St _ _ [_, _, _, _] _ := hs
    replace hx := hx.mono hG61
    replace hw := hw.mono hG61
    replace hM := hM.mono hG61
    have hfm := hB2.form
    obtain ⟨A61, c61, rfl⟩ := hfm
    have hel2 := endsN_len l b L f
    have hs := hs.f2
    have hs := hs.f2
    have hs := hs.f2
    have hsW := hs.drop.drop.drop
    refine A_moreS hsW hle hG61 (List.Sublist.refl _) ?_
    have hs := hs.f1
    have hs := hs.f1
    have hle := hs.le
    refine A_only 8 rfl (by kernel_rfl) rfl (S_call (H1 := [_, _]) hs rfl Tryz.func82 rfl (by kernel_rfl) (aft1' (S := (endsN l b L f)) (ih R (by omega)) hx hw hM2 hel2 hbl hB2) fun v3 G' H' _ hR hG62 hs => ?_)
    obtain ⟨es3, clk3, rb62, rfl, rfl, hM3, hX3⟩ := hR
    replace hs : St _ _ [_, _, _, _, _] _ := hs
    replace hx := hx.mono hG62
    replace hw := hw.mono hG62
    replace hM := hM.mono hG62
    replace hM2 := hM2.mono hG62
    replace hB2 := hB2.mono hG62
    have hs := hs.f3
    have hs := hs.f3
    have hs := hs.f3
    have hs := hs.f3
    have hsW := hs.drop.drop.drop.drop
    refine A_moreS hsW hle hG62 (List.Sublist.refl _) ?_
    refine A_take 9 rfl (by kernel_rfl) rfl hsW (Y_assign rfl ?_)
    refine A_done (by kernel_rfl) (T_kp [7] rfl ?_)
    refine T_seq (T_region rfl ?_)
    refine O_m rfl ?_
    refine O_a rfl ?_
    refine O_nil (T_kp [6] rfl ?_)
    refine T_ret ?_
    have hs := hs.f1
    have hs := hs.f1
    have hs := hs.f2
    refine Rt_fin (vs := [_]) Tryz.results62 rfl ⟨rfl, trivial⟩ ?_
    try dsimp only [tup]
    replace hs := hs.weak hs.le (Ghost.le.refl _) (List.sublist_append_left [_, _, _] _)
    obtain ⟨G9, hG9, hf9, hs⟩ := hs.fixRow (fun k hk => noMh hs ⟨fun _ h => h, fun _ h => h, trivial⟩ k hk)
    exact ⟨_, _, hs, es3, clk3, rfl, hM3.mono hG9, (hX2.more (by omega)).trans (hX3.more (by omega)), bools_of (by rw [hen]; exact hf9) hzl.symm⟩
   ·
    dsimp only [cmpP] at h53
    refine O_a rfl ?_
    refine O_nil (T_kp [0, 2, 4, 7, 21, 52] rfl ?_)
    refine T_condF rfl (T_seq (T_seq (T_region rfl ?_)))
    refine O_y hs (Y_cmpS rfl rfl rfl (fun h64 => ?_) (fun h64 => ?_))
    ·
     dsimp only [cmpP] at h64
     refine O_a rfl ?_
     refine O_nil (T_kp [0, 2, 4, 7, 21, 63] rfl ?_)
     refine T_condT rfl (T_skip ?_)
     have hs := hs.f1
     have hs := hs.f1
     have hs := hs.f3
     have hs := hs.f3
     have ha := arF_2 (k := kd) (by omega)
     have hl12 := ops_l hop (by dsimp only; omega)
     dsimp only at hl12
     obtain ⟨L, rfl⟩ : ∃ L : Nat, ll = (L : Int) := Int.eq_ofNat_of_zero_le hl12.1
     have hr12 := ops_r hop (by dsimp only; omega)
     dsimp only at hr12
     obtain ⟨R, rfl⟩ : ∃ R : Nat, rr = (R : Int) := Int.eq_ofNat_of_zero_le hr12.1
     have hen : endsN l b i f = List.zipWith (fun p q => (p && q) || (p || q)) (endsN l b L f) (endsN l b R f) := by have h := endsN_5 (b := b) (f := f) he hi (by rw [← hnk]; dsimp only; omega); (try rw [← hnk] at h); exact h
     have hs := hs.f2
     have hs := hs.f2
     have hs := hs.f2
     have hsW := hs.drop.drop.drop
     refine T_condT rfl (T_seq (T_drawS [0, 1, 2, 3, 4, 5, 6, 7, 8, 9, 10, 11] hsW (by kernel_rfl) ?_))
     replace hs := hs.drew
     replace hsW := hsW.drew
     refine A_take 0 rfl (by kernel_rfl) rfl hsW (Y_move rfl ?_)
     refine A_take 1 rfl (by kernel_rfl) rfl hsW (Y_fieldAddr FO42_2 rfl (m := 5) rfl ?_)
     refine A_take 2 rfl (by kernel_rfl) rfl hsW (Y_ld 0 Tryz.isAgg3 rfl rfl rfl ?_)
     refine A_take 3 rfl (by kernel_rfl) rfl hsW (Y_move rfl ?_)
     refine A_take 5 rfl (by kernel_rfl) rfl hsW (Y_move rfl ?_)
     refine A_take 6 rfl (by kernel_rfl) rfl hsW (Y_fieldAddr FO42_3 rfl (m := 6) rfl ?_)
     refine A_take 7 rfl (by kernel_rfl) rfl hsW (Y_ld 0 Tryz.isAgg3 rfl rfl rfl ?_)
     refine A_take 8 rfl (by kernel_rfl) rfl hsW (Y_move rfl ?_)
     have hs := hs.f1
     have hs := hs.f1
     have hle := hs.le
     refine A_only 4 rfl (by kernel_rfl) rfl (S_call (H1 := [_, _]) hs rfl Tryz.func42 rfl (by kernel_rfl) ((ih L (by omega)) _ p mb _ _ _ _ f hx hw hM hf) fun v4 G' H' _ hR hG70 hs => ?_)
     obtain ⟨es2, clk2, rfl, hM2, hX2, hB2⟩ := hR
     replace hs : St _ _ [_, _, _, _] _ := hs
     replace hx := hx.mono hG70
     replace hw := hw.mono hG70
     replace hM := hM.mono hG70
     have hfm := hB2.form
     obtain ⟨A70, c70, rfl⟩ := hfm
     have hel2 := endsN_len l b L f
     have hs := hs.f2
     have hs := hs.f2
     have hs := hs.f2
     have hsW := hs.drop.drop.drop
     refine A_moreS hsW hle hG70 (List.Sublist.refl _) ?_
     have hs := hs.f1
     have hs := hs.f1
     have hle := hs.le
     refine A_only 9 rfl (by kernel_rfl) rfl (S_call (H1 := [_, _]) hs rfl Tryz.func42 rfl (by kernel_rfl) ((ih R (by omega)) _ p mb _ _ _ _ f hx hw hM2 hf) fun v5 G' H' _ hR hG75 hs => ?_)
     obtain ⟨es3, clk3, rfl, hM3, hX3, hB3⟩ := hR
     replace hs : St _ _ [_, _, _, _] _ := hs
     replace hx := hx.mono hG75
     replace hw := hw.mono hG75
     replace hM := hM.mono hG75
     replace hM2 := hM2.mono hG75
     replace hB2 := hB2.mono hG75
     have hfm := hB3.form
     obtain ⟨A75, c75, rfl⟩ := hfm
     have hel3 := endsN_len l b R f
     have hs := hs.f2
     have hs := hs.f2
     have hs := hs.f2
     have hsW := hs.drop.drop.drop
     refine A_moreS hsW hle hG75 (List.Sublist.refl _) ?_
     refine A_take 10 rfl (by kernel_rfl) rfl hsW (Y_assign rfl ?_)
     refine A_take 11 rfl (by kernel_rfl) rfl hsW (Y_assign rfl ?_)
     refine A_done (by kernel_rfl) (T_kp [4, 7, 8, 9] rfl ?_)
     refine T_seq (T_region rfl ?_)
     refine O_m rfl ?_
     refine O_y hs (Y_len Tryz.underlying75 rfl ?_)
     refine O_m rfl ?_
     refine O_nil (T_kp [4, 7, 8, 9, 77, 78] rfl ?_)
     have hs := hs.f3
     have hs := hs.f3
     have hs := hs.f3
     have hs := hs.f3
     rw [show List.replicate (b.length + 1) (Value.bool false) = List.map boolV (filL (endsN l b i f) 0) by rw [fil_0, hzl, List.map_replicate]; rfl] at hs
     refine T_block (T_loop (fun m E w => ∃ (j : Nat) (G' : Ghost), j ≤ b.length + 1 ∧ Bools G' (.slice A70 (endsN l b L f).length c70) (endsN l b L f) ∧ Bools G' (.slice A75 (endsN l b R f).length c75) (endsN l b R f) ∧ Memo l b G' es3 ∧ m = b.length + 1 - j ∧ E = ⟨[], [(4, .pointer (some ⟨b4, 0, none⟩)), (7, .slice (some ⟨b19, 0, none⟩) (b.length + 1) (b.length + 1)), (8, .slice A70 (endsN l b L f).length c70), (9, .slice A75 (endsN l b R f).length c75), (77, .int .i64 (((b.length + 1) : Nat) : Int)), (78, .int .i64 (j : Int))]⟩ ∧ St ⟨w0, G, feet [.blk p 74 [nv, wv, .map (some mb)], .obj mb (.map (List.toArray es) clk)]⟩ G' [.blk p 74 [nv, wv, .map (some mb)], .obj mb (.map (List.toArray es3) clk3), .row 4 1 (.slice (some ⟨b19, 0, none⟩) (b.length + 1) (b.length + 1)) (b.length + 1) (List.map boolV (filL (endsN l b i f) j)), .blk b4 42 [.int .i64 kd, u64V c0, u64V c1, u64V c2, u64V c3, .int .i64 (L : Int), .int .i64 (R : Int), .int .i64 mn, .int .i64 mx]] w) (L := [(4, _), (7, _), (8, _), (9, _), (77, _), (78, _)]) ⟨rfl, rfl, rfl, rfl, rfl, rfl, trivial⟩ (⟨0, _, by omega, hB2, hB3, hM3, rfl, rfl, hs⟩) fun m E w hI => ?_)
     obtain ⟨j, G', hj, hB2, hB3, hM3, rfl, rfl, hs⟩ := hI
     have hx := hx0.mono hs.le
     have hw := hw0.mono hs.le
     have hM := hM0.mono hs.le
     refine T_seq (T_region rfl ?_)
     refine O_y hs (Y_cmpS rfl rfl rfl (fun h79 => ?_) (fun h79 => ?_))
     ·
      dsimp only [cmpP] at h79
      refine O_nil (T_kp [4, 7, 8, 9, 77, 78, 79] rfl ?_)
      refine T_seq (T_condT rfl (T_skip ?_))
      refine T_seq (T_block (T_seq (T_region rfl ?_)))
      refine O_m rfl ?_
      refine O_a rfl ?_
      refine O_nil (T_kp [4, 7, 8, 9, 10, 77, 78] rfl ?_)
      refine T_region rfl ?_
      cases hA : (endsN l b L f)[j]'(by omega)
      ·
       cases hB : (endsN l b R f)[j]'(by omega)
       ·
        refine O_m rfl ?_
        refine O_m rfl ?_
        refine O_m rfl ?_
        refine O_m rfl ?_
        refine O_y hs (Y_idx1 j Tryz.underlying75 Tryz.sizeOf4 hB2 rfl rfl rfl (bool_row (by omega)) fun p85 hp85 => ?_)
        refine O_y hs (Y_ldG Tryz.isAgg4 rfl ((by rw [hp85, hA])) ?_)
        refine O_m rfl ?_
        refine O_no 87 rfl rfl ?_
        refine O_no 87 rfl rfl ?_
        refine O_no 87 rfl rfl ?_
        refine O_no 87 rfl rfl ?_
        refine O_y hs (Y_pickF rfl rfl ?_)
        refine O_m rfl ?_
        refine O_yy 93 hs rfl rfl (Y_fieldAddr FO42_0 rfl (m := 0) rfl ?_)
        refine O_yy 93 hs rfl rfl (Y_ld 3 Tryz.isAgg3 rfl rfl rfl ?_)
        refine O_yy 93 hs rfl rfl (Y_cmpT rfl rfl rfl (by omega) ?_)
        refine O_yy 93 hs rfl rfl (Y_move rfl ?_)
        refine O_yy 97 hs rfl rfl (Y_move rfl ?_)
        refine O_yy 97 hs rfl rfl (Y_move rfl ?_)
        refine O_yy 97 hs rfl rfl (Y_idx1 j Tryz.underlying75 Tryz.sizeOf4 hB2 rfl rfl rfl (bool_row (by omega)) fun p100 hp100 => ?_)
        refine O_yy 97 hs rfl rfl (Y_ldG Tryz.isAgg4 rfl ((by rw [hp100, hA])) ?_)
        refine O_yy 97 hs rfl rfl (Y_move rfl ?_)
        refine O_yy 102 hs rfl rfl (Y_move rfl ?_)
        refine O_yy 102 hs rfl rfl (Y_move rfl ?_)
        refine O_yy 102 hs rfl rfl (Y_idx1 j Tryz.underlying75 Tryz.sizeOf4 hB3 rfl rfl rfl (bool_row (by omega)) fun p105 hp105 => ?_)
        refine O_yy 102 hs rfl rfl (Y_ldG Tryz.isAgg4 rfl ((by rw [hp105, hB])) ?_)
        refine O_yy 97 hs rfl rfl (Y_pickF rfl rfl ?_)
        refine O_yy 93 hs rfl rfl (Y_pickT rfl rfl ?_)
        refine O_y hs (Y_pickF rfl rfl ?_)
        refine O_y hs (Y_idxRow (j) Tryz.underlying75 Tryz.sizeOf4 rfl rfl rfl (by omega) ?_)
        have hs := hs.f2
        refine O_n (S_stRow hs Tryz.sizeOf4 rfl rfl rfl (by omega) fun _ hs => ?_)
        refine O_nil (T_kp [4, 7, 8, 9, 77, 78] rfl ?_)
        refine T_region rfl ?_
        refine O_y hs (Y_add (c := ((j + 1 : Nat) : Int)) rfl rfl (by omega) (by omega) ?_)
        refine O_m rfl ?_
        have hs := hs.f3
        have hs := hs.f1
        have hs := hs.f3
        have hs := hs.f3
        have hz : (endsN l b i f)[j]'(by omega) = false := by simp only [hen, List.getElem_zipWith, hA, hB]; try rfl
        refine O_nil ⟨_, ?_, [(4, _), (7, _), (8, _), (9, _), (77, _), (78, _)], ⟨rfl, rfl, rfl, rfl, rfl, rfl, trivial⟩, ⟨j + 1, _, by omega, hB2, hB3, hM3, rfl, rfl, by rw [← fil_set (show j < (endsN l b i f).length by omega) hz]; exact hs⟩⟩
        omega
       ·
        refine O_m rfl ?_
        refine O_m rfl ?_
        refine O_m rfl ?_
        refine O_m rfl ?_
        refine O_y hs (Y_idx1 j Tryz.underlying75 Tryz.sizeOf4 hB2 rfl rfl rfl (bool_row (by omega)) fun p85 hp85 => ?_)
        refine O_y hs (Y_ldG Tryz.isAgg4 rfl ((by rw [hp85, hA])) ?_)
        refine O_m rfl ?_
        refine O_no 87 rfl rfl ?_
        refine O_no 87 rfl rfl ?_
        refine O_no 87 rfl rfl ?_
        refine O_no 87 rfl rfl ?_
        refine O_y hs (Y_pickF rfl rfl ?_)
        refine O_m rfl ?_
        refine O_yy 93 hs rfl rfl (Y_fieldAddr FO42_0 rfl (m := 0) rfl ?_)
        refine O_yy 93 hs rfl rfl (Y_ld 3 Tryz.isAgg3 rfl rfl rfl ?_)
        refine O_yy 93 hs rfl rfl (Y_cmpT rfl rfl rfl (by omega) ?_)
        refine O_yy 93 hs rfl rfl (Y_move rfl ?_)
        refine O_yy 97 hs rfl rfl (Y_move rfl ?_)
        refine O_yy 97 hs rfl rfl (Y_move rfl ?_)
        refine O_yy 97 hs rfl rfl (Y_idx1 j Tryz.underlying75 Tryz.sizeOf4 hB2 rfl rfl rfl (bool_row (by omega)) fun p100 hp100 => ?_)
        refine O_yy 97 hs rfl rfl (Y_ldG Tryz.isAgg4 rfl ((by rw [hp100, hA])) ?_)
        refine O_yy 97 hs rfl rfl (Y_move rfl ?_)
        refine O_yy 102 hs rfl rfl (Y_move rfl ?_)
        refine O_yy 102 hs rfl rfl (Y_move rfl ?_)
        refine O_yy 102 hs rfl rfl (Y_idx1 j Tryz.underlying75 Tryz.sizeOf4 hB3 rfl rfl rfl (bool_row (by omega)) fun p105 hp105 => ?_)
        refine O_yy 102 hs rfl rfl (Y_ldG Tryz.isAgg4 rfl ((by rw [hp105, hB])) ?_)
        refine O_yy 97 hs rfl rfl (Y_pickF rfl rfl ?_)
        refine O_yy 93 hs rfl rfl (Y_pickT rfl rfl ?_)
        refine O_y hs (Y_pickF rfl rfl ?_)
        refine O_y hs (Y_idxRow (j) Tryz.underlying75 Tryz.sizeOf4 rfl rfl rfl (by omega) ?_)
        have hs := hs.f2
        refine O_n (S_stRow hs Tryz.sizeOf4 rfl rfl rfl (by omega) fun _ hs => ?_)
        refine O_nil (T_kp [4, 7, 8, 9, 77, 78] rfl ?_)
        refine T_region rfl ?_
        refine O_y hs (Y_add (c := ((j + 1 : Nat) : Int)) rfl rfl (by omega) (by omega) ?_)
        refine O_m rfl ?_
        have hs := hs.f3
        have hs := hs.f1
        have hs := hs.f3
        have hs := hs.f3
        have hz : (endsN l b i f)[j]'(by omega) = true := by simp only [hen, List.getElem_zipWith, hA, hB]; try rfl
        refine O_nil ⟨_, ?_, [(4, _), (7, _), (8, _), (9, _), (77, _), (78, _)], ⟨rfl, rfl, rfl, rfl, rfl, rfl, trivial⟩, ⟨j + 1, _, by omega, hB2, hB3, hM3, rfl, rfl, by rw [← fil_set (show j < (endsN l b i f).length by omega) hz]; exact hs⟩⟩
        omega
      ·
       cases hB : (endsN l b R f)[j]'(by omega)
       ·
        refine O_m rfl ?_
        refine O_m rfl ?_
        refine O_m rfl ?_
        refine O_m rfl ?_
        refine O_y hs (Y_idx1 j Tryz.underlying75 Tryz.sizeOf4 hB2 rfl rfl rfl (bool_row (by omega)) fun p85 hp85 => ?_)
        refine O_y hs (Y_ldG Tryz.isAgg4 rfl ((by rw [hp85, hA])) ?_)
        refine O_m rfl ?_
        refine O_yy 87 hs rfl rfl (Y_move rfl ?_)
        refine O_yy 87 hs rfl rfl (Y_move rfl ?_)
        refine O_yy 87 hs rfl rfl (Y_idx1 j Tryz.underlying75 Tryz.sizeOf4 hB3 rfl rfl rfl (bool_row (by omega)) fun p90 hp90 => ?_)
        refine O_yy 87 hs rfl rfl (Y_ldG Tryz.isAgg4 rfl ((by rw [hp90, hB])) ?_)
        refine O_y hs (Y_pickT rfl rfl ?_)
        refine O_m rfl ?_
        refine O_yy 93 hs rfl rfl (Y_fieldAddr FO42_0 rfl (m := 0) rfl ?_)
        refine O_yy 93 hs rfl rfl (Y_ld 3 Tryz.isAgg3 rfl rfl rfl ?_)
        refine O_yy 93 hs rfl rfl (Y_cmpT rfl rfl rfl (by omega) ?_)
        refine O_yy 93 hs rfl rfl (Y_move rfl ?_)
        refine O_yy 97 hs rfl rfl (Y_move rfl ?_)
        refine O_yy 97 hs rfl rfl (Y_move rfl ?_)
        refine O_yy 97 hs rfl rfl (Y_idx1 j Tryz.underlying75 Tryz.sizeOf4 hB2 rfl rfl rfl (bool_row (by omega)) fun p100 hp100 => ?_)
        refine O_yy 97 hs rfl rfl (Y_ldG Tryz.isAgg4 rfl ((by rw [hp100, hA])) ?_)
        refine O_yy 97 hs rfl rfl (Y_move rfl ?_)
        refine O_no 102 rfl rfl ?_
        refine O_no 102 rfl rfl ?_
        refine O_no 102 rfl rfl ?_
        refine O_no 102 rfl rfl ?_
        refine O_yy 97 hs rfl rfl (Y_pickT rfl rfl ?_)
        refine O_yy 93 hs rfl rfl (Y_pickT rfl rfl ?_)
        refine O_y hs (Y_pickF rfl rfl ?_)
        refine O_y hs (Y_idxRow (j) Tryz.underlying75 Tryz.sizeOf4 rfl rfl rfl (by omega) ?_)
        have hs := hs.f2
        refine O_n (S_stRow hs Tryz.sizeOf4 rfl rfl rfl (by omega) fun _ hs => ?_)
        refine O_nil (T_kp [4, 7, 8, 9, 77, 78] rfl ?_)
        refine T_region rfl ?_
        refine O_y hs (Y_add (c := ((j + 1 : Nat) : Int)) rfl rfl (by omega) (by omega) ?_)
        refine O_m rfl ?_
        have hs := hs.f3
        have hs := hs.f1
        have hs := hs.f3
        have hs := hs.f3
        have hz : (endsN l b i f)[j]'(by omega) = true := by simp only [hen, List.getElem_zipWith, hA, hB]; try rfl
        refine O_nil ⟨_, ?_, [(4, _), (7, _), (8, _), (9, _), (77, _), (78, _)], ⟨rfl, rfl, rfl, rfl, rfl, rfl, trivial⟩, ⟨j + 1, _, by omega, hB2, hB3, hM3, rfl, rfl, by rw [← fil_set (show j < (endsN l b i f).length by omega) hz]; exact hs⟩⟩
        omega
       ·
        refine O_m rfl ?_
        refine O_m rfl ?_
        refine O_m rfl ?_
        refine O_m rfl ?_
        refine O_y hs (Y_idx1 j Tryz.underlying75 Tryz.sizeOf4 hB2 rfl rfl rfl (bool_row (by omega)) fun p85 hp85 => ?_)
        refine O_y hs (Y_ldG Tryz.isAgg4 rfl ((by rw [hp85, hA])) ?_)
        refine O_m rfl ?_
        refine O_yy 87 hs rfl rfl (Y_move rfl ?_)
        refine O_yy 87 hs rfl rfl (Y_move rfl ?_)
        refine O_yy 87 hs rfl rfl (Y_idx1 j Tryz.underlying75 Tryz.sizeOf4 hB3 rfl rfl rfl (bool_row (by omega)) fun p90 hp90 => ?_)
        refine O_yy 87 hs rfl rfl (Y_ldG Tryz.isAgg4 rfl ((by rw [hp90, hB])) ?_)
        refine O_y hs (Y_pickT rfl rfl ?_)
        refine O_m rfl ?_
        refine O_no 93 rfl rfl ?_
        refine O_no 93 rfl rfl ?_
        refine O_no 93 rfl rfl ?_
        refine O_no 93 rfl rfl ?_
        refine O_noU 97 rfl rfl ?_
        refine O_noU 97 rfl rfl ?_
        refine O_noU 97 rfl rfl ?_
        refine O_noU 97 rfl rfl ?_
        refine O_noU 97 rfl rfl ?_
        refine O_noU 102 rfl rfl ?_
        refine O_noU 102 rfl rfl ?_
        refine O_noU 102 rfl rfl ?_
        refine O_noU 102 rfl rfl ?_
        refine O_noU 97 rfl rfl ?_
        refine O_no 93 rfl rfl ?_
        refine O_y hs (Y_pickT rfl rfl ?_)
        refine O_y hs (Y_idxRow (j) Tryz.underlying75 Tryz.sizeOf4 rfl rfl rfl (by omega) ?_)
        have hs := hs.f2
        refine O_n (S_stRow hs Tryz.sizeOf4 rfl rfl rfl (by omega) fun _ hs => ?_)
        refine O_nil (T_kp [4, 7, 8, 9, 77, 78] rfl ?_)
        refine T_region rfl ?_
        refine O_y hs (Y_add (c := ((j + 1 : Nat) : Int)) rfl rfl (by omega) (by omega) ?_)
        refine O_m rfl ?_
        have hs := hs.f3
        have hs := hs.f1
        have hs := hs.f3
        have hs := hs.f3
        have hz : (endsN l b i f)[j]'(by omega) = true := by simp only [hen, List.getElem_zipWith, hA, hB]; try rfl
        refine O_nil ⟨_, ?_, [(4, _), (7, _), (8, _), (9, _), (77, _), (78, _)], ⟨rfl, rfl, rfl, rfl, rfl, rfl, trivial⟩, ⟨j + 1, _, by omega, hB2, hB3, hM3, rfl, rfl, by rw [← fil_set (show j < (endsN l b i f).length by omega) hz]; exact hs⟩⟩
        omega
     ·
      dsimp only [cmpP] at h79
      refine O_nil (T_kp [4, 7, 8, 9, 77, 78, 79] rfl ?_)
      refine T_seq (T_condF rfl (T_exit ?_))
      refine T_seq (T_region rfl ?_)
      refine O_m rfl ?_
      refine O_a rfl ?_
      refine O_nil (T_kp [6] rfl ?_)
      refine T_ret ?_
      have hs := hs.f1
      have hs := hs.f1
      have hs := hs.f2
      refine Rt_fin (vs := [_]) Tryz.results62 rfl ⟨rfl, trivial⟩ ?_
      try dsimp only [tup]
      replace hs := hs.weak hs.le (Ghost.le.refl _) (List.sublist_append_left [_, _, _] _)
      obtain rfl : j = b.length + 1 := by omega
      have hfa : filL (endsN l b i f) (b.length + 1) = (endsN l b i f) := by rw [← hzl]; exact fil_all _
      rw [hfa] at hs
      obtain ⟨G9, hG9, hf9, hs⟩ := hs.fixRow (fun k hk => noMh hs ⟨fun _ h => h, fun _ h => h, trivial⟩ k hk)
      exact ⟨_, _, hs, es3, clk3, rfl, hM3.mono hG9, (hX2.more (by omega)).trans (hX3.more (by omega)), bools_of (by exact hf9) hzl.symm⟩
    ·
     dsimp only [cmpP] at h64
     refine O_a rfl ?_
     refine O_nil (T_kp [0, 2, 4, 7, 21, 63] rfl ?_)
     refine T_condF rfl (T_region rfl ?_)
     refine O_y hs (Y_cmpS rfl rfl rfl (fun h65 => ?_) (fun h65 => ?_))
     ·
      dsimp only [cmpP] at h65
      refine O_a rfl ?_
      refine O_nil (T_kp [0, 2, 4, 7, 21, 63] rfl ?_)
      have hs := hs.f1
      have hs := hs.f1
      have hs := hs.f3
      have hs := hs.f3
      have ha := arF_2 (k := kd) (by omega)
      have hl12 := ops_l hop (by dsimp only; omega)
      dsimp only at hl12
      obtain ⟨L, rfl⟩ : ∃ L : Nat, ll = (L : Int) := Int.eq_ofNat_of_zero_le hl12.1
      have hr12 := ops_r hop (by dsimp only; omega)
      dsimp only at hr12
      obtain ⟨R, rfl⟩ : ∃ R : Nat, rr = (R : Int) := Int.eq_ofNat_of_zero_le hr12.1
      have hen : endsN l b i f = List.zipWith (fun p q => p && q) (endsN l b L f) (endsN l b R f) := by have h := endsN_6 (b := b) (f := f) he hi (by rw [← hnk]; dsimp only; omega); (try rw [← hnk] at h); exact h
      have hs := hs.f2
      have hs := hs.f2
      have hs := hs.f2
      have hsW := hs.drop.drop.drop
      refine T_condT rfl (T_seq (T_drawS [0, 1, 2, 3, 4, 5, 6, 7, 8, 9, 10, 11] hsW (by kernel_rfl) ?_))
      replace hs := hs.drew
      replace hsW := hsW.drew
      refine A_take 0 rfl (by kernel_rfl) rfl hsW (Y_move rfl ?_)
      refine A_take 1 rfl (by kernel_rfl) rfl hsW (Y_fieldAddr FO42_2 rfl (m := 5) rfl ?_)
      refine A_take 2 rfl (by kernel_rfl) rfl hsW (Y_ld 0 Tryz.isAgg3 rfl rfl rfl ?_)
      refine A_take 3 rfl (by kernel_rfl) rfl hsW (Y_move rfl ?_)
      refine A_take 5 rfl (by kernel_rfl) rfl hsW (Y_move rfl ?_)
      refine A_take 6 rfl (by kernel_rfl) rfl hsW (Y_fieldAddr FO42_3 rfl (m := 6) rfl ?_)
      refine A_take 7 rfl (by kernel_rfl) rfl hsW (Y_ld 0 Tryz.isAgg3 rfl rfl rfl ?_)
      refine A_take 8 rfl (by kernel_rfl) rfl hsW (Y_move rfl ?_)
      have hs := hs.f1
      have hs := hs.f1
      have hle := hs.le
      refine A_only 4 rfl (by kernel_rfl) rfl (S_call (H1 := [_, _]) hs rfl Tryz.func42 rfl (by kernel_rfl) ((ih L (by omega)) _ p mb _ _ _ _ f hx hw hM hf) fun v6 G' H' _ hR hG70 hs => ?_)
      obtain ⟨es2, clk2, rfl, hM2, hX2, hB2⟩ := hR
      replace hs : St _ _ [_, _, _, _] _ := hs
      replace hx := hx.mono hG70
      replace hw := hw.mono hG70
      replace hM := hM.mono hG70
      have hfm := hB2.form
      obtain ⟨A70, c70, rfl⟩ := hfm
      have hel2 := endsN_len l b L f
      have hs := hs.f2
      have hs := hs.f2
      have hs := hs.f2
      have hsW := hs.drop.drop.drop
      refine A_moreS hsW hle hG70 (List.Sublist.refl _) ?_
      have hs := hs.f1
      have hs := hs.f1
      have hle := hs.le
      refine A_only 9 rfl (by kernel_rfl) rfl (S_call (H1 := [_, _]) hs rfl Tryz.func42 rfl (by kernel_rfl) ((ih R (by omega)) _ p mb _ _ _ _ f hx hw hM2 hf) fun v7 G' H' _ hR hG75 hs => ?_)
      obtain ⟨es3, clk3, rfl, hM3, hX3, hB3⟩ := hR
      replace hs : St _ _ [_, _, _, _] _ := hs
      replace hx := hx.mono hG75
      replace hw := hw.mono hG75
      replace hM := hM.mono hG75
      replace hM2 := hM2.mono hG75
      replace hB2 := hB2.mono hG75
      have hfm := hB3.form
      obtain ⟨A75, c75, rfl⟩ := hfm
      have hel3 := endsN_len l b R f
      have hs := hs.f2
      have hs := hs.f2
      have hs := hs.f2
      have hsW := hs.drop.drop.drop
      refine A_moreS hsW hle hG75 (List.Sublist.refl _) ?_
      refine A_take 10 rfl (by kernel_rfl) rfl hsW (Y_assign rfl ?_)
      refine A_take 11 rfl (by kernel_rfl) rfl hsW (Y_assign rfl ?_)
      refine A_done (by kernel_rfl) (T_kp [4, 7, 8, 9] rfl ?_)
      refine T_seq (T_region rfl ?_)
      refine O_m rfl ?_
      refine O_y hs (Y_len Tryz.underlying75 rfl ?_)
      refine O_m rfl ?_
      refine O_nil (T_kp [4, 7, 8, 9, 77, 78] rfl ?_)
      have hs := hs.f3
      have hs := hs.f3
      have hs := hs.f3
      have hs := hs.f3
      rw [show List.replicate (b.length + 1) (Value.bool false) = List.map boolV (filL (endsN l b i f) 0) by rw [fil_0, hzl, List.map_replicate]; rfl] at hs
      refine T_block (T_loop (fun m E w => ∃ (j : Nat) (G' : Ghost), j ≤ b.length + 1 ∧ Bools G' (.slice A70 (endsN l b L f).length c70) (endsN l b L f) ∧ Bools G' (.slice A75 (endsN l b R f).length c75) (endsN l b R f) ∧ Memo l b G' es3 ∧ m = b.length + 1 - j ∧ E = ⟨[], [(4, .pointer (some ⟨b4, 0, none⟩)), (7, .slice (some ⟨b19, 0, none⟩) (b.length + 1) (b.length + 1)), (8, .slice A70 (endsN l b L f).length c70), (9, .slice A75 (endsN l b R f).length c75), (77, .int .i64 (((b.length + 1) : Nat) : Int)), (78, .int .i64 (j : Int))]⟩ ∧ St ⟨w0, G, feet [.blk p 74 [nv, wv, .map (some mb)], .obj mb (.map (List.toArray es) clk)]⟩ G' [.blk p 74 [nv, wv, .map (some mb)], .obj mb (.map (List.toArray es3) clk3), .row 4 1 (.slice (some ⟨b19, 0, none⟩) (b.length + 1) (b.length + 1)) (b.length + 1) (List.map boolV (filL (endsN l b i f) j)), .blk b4 42 [.int .i64 kd, u64V c0, u64V c1, u64V c2, u64V c3, .int .i64 (L : Int), .int .i64 (R : Int), .int .i64 mn, .int .i64 mx]] w) (L := [(4, _), (7, _), (8, _), (9, _), (77, _), (78, _)]) ⟨rfl, rfl, rfl, rfl, rfl, rfl, trivial⟩ (⟨0, _, by omega, hB2, hB3, hM3, rfl, rfl, hs⟩) fun m E w hI => ?_)
      obtain ⟨j, G', hj, hB2, hB3, hM3, rfl, rfl, hs⟩ := hI
      have hx := hx0.mono hs.le
      have hw := hw0.mono hs.le
      have hM := hM0.mono hs.le
      refine T_seq (T_region rfl ?_)
      refine O_y hs (Y_cmpS rfl rfl rfl (fun h79 => ?_) (fun h79 => ?_))
      ·
       dsimp only [cmpP] at h79
       refine O_nil (T_kp [4, 7, 8, 9, 77, 78, 79] rfl ?_)
       refine T_seq (T_condT rfl (T_skip ?_))
       refine T_seq (T_block (T_seq (T_region rfl ?_)))
       refine O_m rfl ?_
       refine O_a rfl ?_
       refine O_nil (T_kp [4, 7, 8, 9, 10, 77, 78] rfl ?_)
       refine T_region rfl ?_
       cases hA : (endsN l b L f)[j]'(by omega)
       ·
        cases hB : (endsN l b R f)[j]'(by omega)
        ·
         refine O_m rfl ?_
         refine O_m rfl ?_
         refine O_m rfl ?_
         refine O_m rfl ?_
         refine O_y hs (Y_idx1 j Tryz.underlying75 Tryz.sizeOf4 hB2 rfl rfl rfl (bool_row (by omega)) fun p85 hp85 => ?_)
         refine O_y hs (Y_ldG Tryz.isAgg4 rfl ((by rw [hp85, hA])) ?_)
         refine O_m rfl ?_
         refine O_no 87 rfl rfl ?_
         refine O_no 87 rfl rfl ?_
         refine O_no 87 rfl rfl ?_
         refine O_no 87 rfl rfl ?_
         refine O_y hs (Y_pickF rfl rfl ?_)
         refine O_m rfl ?_
         refine O_yy 93 hs rfl rfl (Y_fieldAddr FO42_0 rfl (m := 0) rfl ?_)
         refine O_yy 93 hs rfl rfl (Y_ld 3 Tryz.isAgg3 rfl rfl rfl ?_)
         refine O_yy 93 hs rfl rfl (Y_cmpF rfl rfl rfl (by omega) ?_)
         refine O_yy 93 hs rfl rfl (Y_move rfl ?_)
         refine O_no 97 rfl rfl ?_
         refine O_no 97 rfl rfl ?_
         refine O_no 97 rfl rfl ?_
         refine O_no 97 rfl rfl ?_
         refine O_no 97 rfl rfl ?_
         refine O_noU 102 rfl rfl ?_
         refine O_noU 102 rfl rfl ?_
         refine O_noU 102 rfl rfl ?_
         refine O_noU 102 rfl rfl ?_
         refine O_no 97 rfl rfl ?_
         refine O_yy 93 hs rfl rfl (Y_pickF rfl rfl ?_)
         refine O_y hs (Y_pickF rfl rfl ?_)
         refine O_y hs (Y_idxRow (j) Tryz.underlying75 Tryz.sizeOf4 rfl rfl rfl (by omega) ?_)
         have hs := hs.f2
         refine O_n (S_stRow hs Tryz.sizeOf4 rfl rfl rfl (by omega) fun _ hs => ?_)
         refine O_nil (T_kp [4, 7, 8, 9, 77, 78] rfl ?_)
         refine T_region rfl ?_
         refine O_y hs (Y_add (c := ((j + 1 : Nat) : Int)) rfl rfl (by omega) (by omega) ?_)
         refine O_m rfl ?_
         have hs := hs.f3
         have hs := hs.f1
         have hs := hs.f3
         have hs := hs.f3
         have hz : (endsN l b i f)[j]'(by omega) = false := by simp only [hen, List.getElem_zipWith, hA, hB]; try rfl
         refine O_nil ⟨_, ?_, [(4, _), (7, _), (8, _), (9, _), (77, _), (78, _)], ⟨rfl, rfl, rfl, rfl, rfl, rfl, trivial⟩, ⟨j + 1, _, by omega, hB2, hB3, hM3, rfl, rfl, by rw [← fil_set (show j < (endsN l b i f).length by omega) hz]; exact hs⟩⟩
         omega
        ·
         refine O_m rfl ?_
         refine O_m rfl ?_
         refine O_m rfl ?_
         refine O_m rfl ?_
         refine O_y hs (Y_idx1 j Tryz.underlying75 Tryz.sizeOf4 hB2 rfl rfl rfl (bool_row (by omega)) fun p85 hp85 => ?_)
         refine O_y hs (Y_ldG Tryz.isAgg4 rfl ((by rw [hp85, hA])) ?_)
         refine O_m rfl ?_
         refine O_no 87 rfl rfl ?_
         refine O_no 87 rfl rfl ?_
         refine O_no 87 rfl rfl ?_
         refine O_no 87 rfl rfl ?_
         refine O_y hs (Y_pickF rfl rfl ?_)
         refine O_m rfl ?_
         refine O_yy 93 hs rfl rfl (Y_fieldAddr FO42_0 rfl (m := 0) rfl ?_)
         refine O_yy 93 hs rfl rfl (Y_ld 3 Tryz.isAgg3 rfl rfl rfl ?_)
         refine O_yy 93 hs rfl rfl (Y_cmpF rfl rfl rfl (by omega) ?_)
         refine O_yy 93 hs rfl rfl (Y_move rfl ?_)
         refine O_no 97 rfl rfl ?_
         refine O_no 97 rfl rfl ?_
         refine O_no 97 rfl rfl ?_
         refine O_no 97 rfl rfl ?_
         refine O_no 97 rfl rfl ?_
         refine O_noU 102 rfl rfl ?_
         refine O_noU 102 rfl rfl ?_
         refine O_noU 102 rfl rfl ?_
         refine O_noU 102 rfl rfl ?_
         refine O_no 97 rfl rfl ?_
         refine O_yy 93 hs rfl rfl (Y_pickF rfl rfl ?_)
         refine O_y hs (Y_pickF rfl rfl ?_)
         refine O_y hs (Y_idxRow (j) Tryz.underlying75 Tryz.sizeOf4 rfl rfl rfl (by omega) ?_)
         have hs := hs.f2
         refine O_n (S_stRow hs Tryz.sizeOf4 rfl rfl rfl (by omega) fun _ hs => ?_)
         refine O_nil (T_kp [4, 7, 8, 9, 77, 78] rfl ?_)
         refine T_region rfl ?_
         refine O_y hs (Y_add (c := ((j + 1 : Nat) : Int)) rfl rfl (by omega) (by omega) ?_)
         refine O_m rfl ?_
         have hs := hs.f3
         have hs := hs.f1
         have hs := hs.f3
         have hs := hs.f3
         have hz : (endsN l b i f)[j]'(by omega) = false := by simp only [hen, List.getElem_zipWith, hA, hB]; try rfl
         refine O_nil ⟨_, ?_, [(4, _), (7, _), (8, _), (9, _), (77, _), (78, _)], ⟨rfl, rfl, rfl, rfl, rfl, rfl, trivial⟩, ⟨j + 1, _, by omega, hB2, hB3, hM3, rfl, rfl, by rw [← fil_set (show j < (endsN l b i f).length by omega) hz]; exact hs⟩⟩
         omega
       ·
        cases hB : (endsN l b R f)[j]'(by omega)
        ·
         refine O_m rfl ?_
         refine O_m rfl ?_
         refine O_m rfl ?_
         refine O_m rfl ?_
         refine O_y hs (Y_idx1 j Tryz.underlying75 Tryz.sizeOf4 hB2 rfl rfl rfl (bool_row (by omega)) fun p85 hp85 => ?_)
         refine O_y hs (Y_ldG Tryz.isAgg4 rfl ((by rw [hp85, hA])) ?_)
         refine O_m rfl ?_
         refine O_yy 87 hs rfl rfl (Y_move rfl ?_)
         refine O_yy 87 hs rfl rfl (Y_move rfl ?_)
         refine O_yy 87 hs rfl rfl (Y_idx1 j Tryz.underlying75 Tryz.sizeOf4 hB3 rfl rfl rfl (bool_row (by omega)) fun p90 hp90 => ?_)
         refine O_yy 87 hs rfl rfl (Y_ldG Tryz.isAgg4 rfl ((by rw [hp90, hB])) ?_)
         refine O_y hs (Y_pickT rfl rfl ?_)
         refine O_m rfl ?_
         refine O_yy 93 hs rfl rfl (Y_fieldAddr FO42_0 rfl (m := 0) rfl ?_)
         refine O_yy 93 hs rfl rfl (Y_ld 3 Tryz.isAgg3 rfl rfl rfl ?_)
         refine O_yy 93 hs rfl rfl (Y_cmpF rfl rfl rfl (by omega) ?_)
         refine O_yy 93 hs rfl rfl (Y_move rfl ?_)
         refine O_no 97 rfl rfl ?_
         refine O_no 97 rfl rfl ?_
         refine O_no 97 rfl rfl ?_
         refine O_no 97 rfl rfl ?_
         refine O_no 97 rfl rfl ?_
         refine O_noU 102 rfl rfl ?_
         refine O_noU 102 rfl rfl ?_
         refine O_noU 102 rfl rfl ?_
         refine O_noU 102 rfl rfl ?_
         refine O_no 97 rfl rfl ?_
         refine O_yy 93 hs rfl rfl (Y_pickF rfl rfl ?_)
         refine O_y hs (Y_pickF rfl rfl ?_)
         refine O_y hs (Y_idxRow (j) Tryz.underlying75 Tryz.sizeOf4 rfl rfl rfl (by omega) ?_)
         have hs := hs.f2
         refine O_n (S_stRow hs Tryz.sizeOf4 rfl rfl rfl (by omega) fun _ hs => ?_)
         refine O_nil (T_kp [4, 7, 8, 9, 77, 78] rfl ?_)
         refine T_region rfl ?_
         refine O_y hs (Y_add (c := ((j + 1 : Nat) : Int)) rfl rfl (by omega) (by omega) ?_)
         refine O_m rfl ?_
         have hs := hs.f3
         have hs := hs.f1
         have hs := hs.f3
         have hs := hs.f3
         have hz : (endsN l b i f)[j]'(by omega) = false := by simp only [hen, List.getElem_zipWith, hA, hB]; try rfl
         refine O_nil ⟨_, ?_, [(4, _), (7, _), (8, _), (9, _), (77, _), (78, _)], ⟨rfl, rfl, rfl, rfl, rfl, rfl, trivial⟩, ⟨j + 1, _, by omega, hB2, hB3, hM3, rfl, rfl, by rw [← fil_set (show j < (endsN l b i f).length by omega) hz]; exact hs⟩⟩
         omega
        ·
         refine O_m rfl ?_
         refine O_m rfl ?_
         refine O_m rfl ?_
         refine O_m rfl ?_
         refine O_y hs (Y_idx1 j Tryz.underlying75 Tryz.sizeOf4 hB2 rfl rfl rfl (bool_row (by omega)) fun p85 hp85 => ?_)
         refine O_y hs (Y_ldG Tryz.isAgg4 rfl ((by rw [hp85, hA])) ?_)
         refine O_m rfl ?_
         refine O_yy 87 hs rfl rfl (Y_move rfl ?_)
         refine O_yy 87 hs rfl rfl (Y_move rfl ?_)
         refine O_yy 87 hs rfl rfl (Y_idx1 j Tryz.underlying75 Tryz.sizeOf4 hB3 rfl rfl rfl (bool_row (by omega)) fun p90 hp90 => ?_)
         refine O_yy 87 hs rfl rfl (Y_ldG Tryz.isAgg4 rfl ((by rw [hp90, hB])) ?_)
         refine O_y hs (Y_pickT rfl rfl ?_)
         refine O_m rfl ?_
         refine O_no 93 rfl rfl ?_
         refine O_no 93 rfl rfl ?_
         refine O_no 93 rfl rfl ?_
         refine O_no 93 rfl rfl ?_
         refine O_noU 97 rfl rfl ?_
         refine O_noU 97 rfl rfl ?_
         refine O_noU 97 rfl rfl ?_
         refine O_noU 97 rfl rfl ?_
         refine O_noU 97 rfl rfl ?_
         refine O_noU 102 rfl rfl ?_
         refine O_noU 102 rfl rfl ?_
         refine O_noU 102 rfl rfl ?_
         refine O_noU 102 rfl rfl ?_
         refine O_noU 97 rfl rfl ?_
         refine O_no 93 rfl rfl ?_
         refine O_y hs (Y_pickT rfl rfl ?_)
         refine O_y hs (Y_idxRow (j) Tryz.underlying75 Tryz.sizeOf4 rfl rfl rfl (by omega) ?_)
         have hs := hs.f2
         refine O_n (S_stRow hs Tryz.sizeOf4 rfl rfl rfl (by omega) fun _ hs => ?_)
         refine O_nil (T_kp [4, 7, 8, 9, 77, 78] rfl ?_)
         refine T_region rfl ?_
         refine O_y hs (Y_add (c := ((j + 1 : Nat) : Int)) rfl rfl (by omega) (by omega) ?_)
         refine O_m rfl ?_
         have hs := hs.f3
         have hs := hs.f1
         have hs := hs.f3
         have hs := hs.f3
         have hz : (endsN l b i f)[j]'(by omega) = true := by simp only [hen, List.getElem_zipWith, hA, hB]; try rfl
         refine O_nil ⟨_, ?_, [(4, _), (7, _), (8, _), (9, _), (77, _), (78, _)], ⟨rfl, rfl, rfl, rfl, rfl, rfl, trivial⟩, ⟨j + 1, _, by omega, hB2, hB3, hM3, rfl, rfl, by rw [← fil_set (show j < (endsN l b i f).length by omega) hz]; exact hs⟩⟩
         omega
      ·
       dsimp only [cmpP] at h79
       refine O_nil (T_kp [4, 7, 8, 9, 77, 78, 79] rfl ?_)
       refine T_seq (T_condF rfl (T_exit ?_))
       refine T_seq (T_region rfl ?_)
       refine O_m rfl ?_
       refine O_a rfl ?_
       refine O_nil (T_kp [6] rfl ?_)
       refine T_ret ?_
       have hs := hs.f1
       have hs := hs.f1
       have hs := hs.f2
       refine Rt_fin (vs := [_]) Tryz.results62 rfl ⟨rfl, trivial⟩ ?_
       try dsimp only [tup]
       replace hs := hs.weak hs.le (Ghost.le.refl _) (List.sublist_append_left [_, _, _] _)
       obtain rfl : j = b.length + 1 := by omega
       have hfa : filL (endsN l b i f) (b.length + 1) = (endsN l b i f) := by rw [← hzl]; exact fil_all _
       rw [hfa] at hs
       obtain ⟨G9, hG9, hf9, hs⟩ := hs.fixRow (fun k hk => noMh hs ⟨fun _ h => h, fun _ h => h, trivial⟩ k hk)
       exact ⟨_, _, hs, es3, clk3, rfl, hM3.mono hG9, (hX2.more (by omega)).trans (hX3.more (by omega)), bools_of (by exact hf9) hzl.symm⟩
     ·
      dsimp only [cmpP] at h65
      refine O_a rfl ?_
      refine O_nil (T_kp [0, 2, 4, 7, 21, 63] rfl ?_)
      refine T_condF rfl (T_seq (T_region rfl ?_))
      refine O_y hs (Y_cmpS rfl rfl rfl (fun h113 => ?_) (fun h113 => ?_))
      ·
       dsimp only [cmpP] at h113
       refine O_a rfl ?_
       refine O_nil (T_kp [0, 2, 4, 7, 21, 112] rfl ?_)
       have ha := arF_1 (k := kd) (by omega)
       have hl12 := ops_l hop (by dsimp only; omega)
       dsimp only at hl12
       obtain ⟨L, rfl⟩ : ∃ L : Nat, ll = (L : Int) := Int.eq_ofNat_of_zero_le hl12.1
       have hen : endsN l b i f = (endsN l b L f).mapIdx fun j p => decide (f ≤ j) && !p := by have h := endsN_7 (b := b) (f := f) he hi (by rw [← hnk]; dsimp only; omega); (try rw [← hnk] at h); exact h
       refine T_condT rfl (T_seq (T_region rfl ?_))
       refine O_m rfl ?_
       refine O_y hs (Y_fieldAddr FO42_2 rfl (m := 5) rfl ?_)
       refine O_y hs (Y_ld 1 Tryz.isAgg3 rfl rfl rfl ?_)
       refine O_m rfl ?_
       have hs := hs.f3
       have hs := hs.f3
       refine O_s (S_call (H1 := [_, _]) hs rfl Tryz.func42 rfl (by kernel_rfl) ((ih L (by omega)) _ p mb _ _ _ _ f hx hw hM hf) fun v8 G' H' _ hR hG118 hs => ?_)
       obtain ⟨es2, clk2, rfl, hM2, hX2, hB2⟩ := hR
       replace hs : St _ _ [_, _, _, _] _ := hs
       replace hx := hx.mono hG118
       replace hw := hw.mono hG118
       replace hM := hM.mono hG118
       have hfm := hB2.form
       obtain ⟨A118, c118, rfl⟩ := hfm
       have hel2 := endsN_len l b L f
       refine O_a rfl ?_
       refine O_nil (T_kp [2, 7, 11] rfl ?_)
       refine T_seq (T_region rfl ?_)
       refine O_m rfl ?_
       refine O_a rfl ?_
       refine O_nil (T_kp [7, 11, 12] rfl ?_)
       have hs := hs.f3
       have hs := hs.f3
       have hs := hs.f3
       have hs := hs.f3
       rw [show List.replicate (b.length + 1) (Value.bool false) = List.map boolV (filL (endsN l b i f) f) by rw [hen, fil_low (by omega), hel2, List.map_replicate]; rfl] at hs
       refine T_block (T_loop (fun m E w => ∃ (j : Nat) (G' : Ghost), f ≤ j ∧ j ≤ b.length + 1 ∧ Bools G' (.slice A118 (endsN l b L f).length c118) (endsN l b L f) ∧ Memo l b G' es2 ∧ m = b.length + 1 - j ∧ E = ⟨[], [(7, .slice (some ⟨b19, 0, none⟩) (b.length + 1) (b.length + 1)), (11, .slice A118 (endsN l b L f).length c118), (12, .int .i64 (j : Int))]⟩ ∧ St ⟨w0, G, feet [.blk p 74 [nv, wv, .map (some mb)], .obj mb (.map (List.toArray es) clk)]⟩ G' [.blk p 74 [nv, wv, .map (some mb)], .obj mb (.map (List.toArray es2) clk2), .row 4 1 (.slice (some ⟨b19, 0, none⟩) (b.length + 1) (b.length + 1)) (b.length + 1) (List.map boolV (filL (endsN l b i f) j)), .blk b4 42 [.int .i64 kd, u64V c0, u64V c1, u64V c2, u64V c3, .int .i64 (L : Int), .int .i64 rr, .int .i64 mn, .int .i64 mx]] w) (L := [(7, _), (11, _), (12, _)]) ⟨rfl, rfl, rfl, trivial⟩ (⟨f, _, by omega, by omega, hB2, hM2, rfl, rfl, hs⟩) fun m E w hI => ?_)
       obtain ⟨j, G', hj0, hj, hB2, hM2, rfl, rfl, hs⟩ := hI
       have hx := hx0.mono hs.le
       have hw := hw0.mono hs.le
       have hM := hM0.mono hs.le
       refine T_seq (T_seq (T_region rfl ?_))
       refine O_m rfl ?_
       refine O_m rfl ?_
       refine O_y hs (Y_len Tryz.underlying75 rfl ?_)
       refine O_y hs (Y_cmpS rfl rfl rfl (fun h123 => ?_) (fun h123 => ?_))
       ·
        dsimp only [cmpP] at h123
        refine O_nil (T_kp [7, 11, 12, 123] rfl ?_)
        refine T_condT rfl (T_skip ?_)
        refine T_seq (T_block (T_region rfl ?_))
        cases hA : (endsN l b L f)[j]'(by omega)
        ·
         refine O_m rfl ?_
         refine O_m rfl ?_
         refine O_m rfl ?_
         refine O_m rfl ?_
         refine O_y hs (Y_idx1 j Tryz.underlying75 Tryz.sizeOf4 hB2 rfl rfl rfl (bool_row (by omega)) fun p130 hp130 => ?_)
         refine O_y hs (Y_ldG Tryz.isAgg4 rfl ((by rw [hp130, hA])) ?_)
         refine O_y hs (Y_not rfl ?_)
         refine O_y hs (Y_idxRow (j) Tryz.underlying75 Tryz.sizeOf4 rfl rfl rfl (by omega) ?_)
         have hs := hs.f2
         refine O_n (S_stRow hs Tryz.sizeOf4 rfl rfl rfl (by omega) fun _ hs => ?_)
         refine O_nil (T_kp [7, 11, 12] rfl ?_)
         refine T_region rfl ?_
         refine O_m rfl ?_
         refine O_y hs (Y_add (c := ((j + 1 : Nat) : Int)) rfl rfl (by omega) (by omega) ?_)
         refine O_a rfl ?_
         have hs := hs.f3
         have hs := hs.f1
         have hs := hs.f3
         have hs := hs.f3
         have hz : (endsN l b i f)[j]'(by omega) = true := by simp only [hen, List.getElem_mapIdx, hA]; simp; try omega
         refine O_nil ⟨_, ?_, [(7, _), (11, _), (12, _)], ⟨rfl, rfl, rfl, trivial⟩, ⟨j + 1, _, by omega, by omega, hB2, hM2, rfl, rfl, by rw [← fil_set (show j < (endsN l b i f).length by omega) hz]; exact hs⟩⟩
         omega
        ·
         refine O_m rfl ?_
         refine O_m rfl ?_
         refine O_m rfl ?_
         refine O_m rfl ?_
         refine O_y hs (Y_idx1 j Tryz.underlying75 Tryz.sizeOf4 hB2 rfl rfl rfl (bool_row (by omega)) fun p130 hp130 => ?_)
         refine O_y hs (Y_ldG Tryz.isAgg4 rfl ((by rw [hp130, hA])) ?_)
         refine O_y hs (Y_not rfl ?_)
         refine O_y hs (Y_idxRow (j) Tryz.underlying75 Tryz.sizeOf4 rfl rfl rfl (by omega) ?_)
         have hs := hs.f2
         refine O_n (S_stRow hs Tryz.sizeOf4 rfl rfl rfl (by omega) fun _ hs => ?_)
         refine O_nil (T_kp [7, 11, 12] rfl ?_)
         refine T_region rfl ?_
         refine O_m rfl ?_
         refine O_y hs (Y_add (c := ((j + 1 : Nat) : Int)) rfl rfl (by omega) (by omega) ?_)
         refine O_a rfl ?_
         have hs := hs.f3
         have hs := hs.f1
         have hs := hs.f3
         have hs := hs.f3
         have hz : (endsN l b i f)[j]'(by omega) = false := by simp only [hen, List.getElem_mapIdx, hA]; simp; try omega
         refine O_nil ⟨_, ?_, [(7, _), (11, _), (12, _)], ⟨rfl, rfl, rfl, trivial⟩, ⟨j + 1, _, by omega, by omega, hB2, hM2, rfl, rfl, by rw [← fil_set (show j < (endsN l b i f).length by omega) hz]; exact hs⟩⟩
         omega
       ·
        dsimp only [cmpP] at h123
        refine O_nil (T_kp [7, 11, 12, 123] rfl ?_)
        refine T_condF rfl (T_exit ?_)
        refine T_seq (T_region rfl ?_)
        refine O_m rfl ?_
        refine O_a rfl ?_
        refine O_nil (T_kp [6] rfl ?_)
        refine T_ret ?_
        have hs := hs.f1
        have hs := hs.f1
        have hs := hs.f2
        refine Rt_fin (vs := [_]) Tryz.results62 rfl ⟨rfl, trivial⟩ ?_
        try dsimp only [tup]
        replace hs := hs.weak hs.le (Ghost.le.refl _) (List.sublist_append_left [_, _, _] _)
        obtain rfl : j = b.length + 1 := by omega
        have hfa : filL (endsN l b i f) (b.length + 1) = (endsN l b i f) := by rw [← hzl]; exact fil_all _
        rw [hfa] at hs
        obtain ⟨G9, hG9, hf9, hs⟩ := hs.fixRow (fun k hk => noMh hs ⟨fun _ h => h, fun _ h => h, trivial⟩ k hk)
        exact ⟨_, _, hs, es2, clk2, rfl, hM2.mono hG9, hX2.more (by omega), bools_of (by exact hf9) hzl.symm⟩
      ·
       dsimp only [cmpP] at h113
       refine O_a rfl ?_
       refine O_nil (T_kp [0, 2, 4, 7, 21, 112] rfl ?_)
       refine T_condF rfl (T_seq (T_region rfl ?_))
       refine O_y hs (Y_cmpS rfl rfl rfl (fun h135 => ?_) (fun h135 => ?_))
       ·
        dsimp only [cmpP] at h135
        refine O_a rfl ?_
        refine O_nil (T_kp [0, 2, 4, 7, 134] rfl ?_)
        refine T_condT rfl (T_seq (T_region rfl ?_))
        refine O_m rfl ?_
        refine O_m rfl ?_
        refine O_y hs (Y_idxRow (f) Tryz.underlying75 Tryz.sizeOf4 rfl rfl rfl (by omega) ?_)
        refine O_n (S_stRow hs Tryz.sizeOf4 rfl rfl rfl (by omega) fun _ hs => ?_)
        refine O_nil (T_kp [0, 4, 7] rfl ?_)
        have ha := arF_1 (k := kd) (by omega)
        have hrg := rep_rng hne (by dsimp only; omega)
        have hro := rep_ord hne (by dsimp only; omega)
        dsimp only at hrg hro
        have hl12 := ops_l hop (by dsimp only; omega)
        dsimp only at hl12
        obtain ⟨L, rfl⟩ : ∃ L : Nat, ll = (L : Int) := Int.eq_ofNat_of_zero_le hl12.1
        have hen : endsN l b i f = timesB b.length (endsN l b L) mn mx (oneB b.length f) := by have h := endsN_8 (b := b) (f := f) he hi (by rw [← hnk]; dsimp only; omega); (try rw [← hnk] at h); exact h
        rw [one_row] at hs
        refine T_region rfl ?_
        refine O_m rfl ?_
        refine O_y hs (Y_ldA 1 Tryz.isAgg42 Tryz.sizeOf42 rfl rfl (vs := [_, _, _, _, _, _, _, _, _]) rfl rfl ?_)
        refine O_m rfl ?_
        have hs := hs.f3
        have hs := hs.f3
        refine O_s (S_call (H1 := [_, _, _]) hs rfl Tryz.func83 rfl (by kernel_rfl) (tim_ok (cc := [c0, c1, c2, c3]) (S := oneB b.length f) rfl (ih L (by omega)) hx hw hM (oneB_len _ _) hbl ⟨hrg.1, hrg.2.1, hrg.2.2.1, hrg.2.2.2, hro⟩) fun v9 G' H' _ hR hG142 hs => ?_)
        obtain ⟨es3, clk3, rb142, rfl, rfl, hM3, hX3⟩ := hR
        replace hs : St _ _ [_, _, _, _] _ := hs
        replace hx := hx.mono hG142
        replace hw := hw.mono hG142
        replace hM := hM.mono hG142
        refine O_a rfl ?_
        refine O_nil (T_kp [7] rfl ?_)
        refine T_seq (T_region rfl ?_)
        refine O_m rfl ?_
        refine O_a rfl ?_
        refine O_nil (T_kp [6] rfl ?_)
        refine T_ret ?_
        have hs := hs.f1
        have hs := hs.f1
        have hs := hs.f2
        refine Rt_fin (vs := [_]) Tryz.results62 rfl ⟨rfl, trivial⟩ ?_
        try dsimp only [tup]
        replace hs := hs.weak hs.le (Ghost.le.refl _) (List.sublist_append_left [_, _, _] _)
        obtain ⟨G9, hG9, hf9, hs⟩ := hs.fixRow (fun k hk => noMh hs ⟨fun _ h => h, fun _ h => h, trivial⟩ k hk)
        exact ⟨_, _, hs, es3, clk3, rfl, hM3.mono hG9, hX3.more (by omega), bools_of (by rw [hen]; exact hf9) hzl.symm⟩
       ·
        dsimp only [cmpP] at h135
        refine O_a rfl ?_
        refine O_nil (T_kp [0, 2, 4, 7, 134] rfl ?_)
        refine T_condF rfl (T_skip ?_)
        refine T_seq (T_region rfl ?_)
        refine O_m rfl ?_
        refine O_a rfl ?_
        refine O_nil (T_kp [6] rfl ?_)
        refine T_ret ?_
        have hs := hs.f3
        have hs := hs.f3
        have hs := hs.f2
        refine Rt_fin (vs := [_]) Tryz.results62 rfl ⟨rfl, trivial⟩ ?_
        try dsimp only [tup]
        replace hs := hs.weak hs.le (Ghost.le.refl _) (List.sublist_append_left [_, _, _] _)
        have hen : endsN l b i f = List.replicate (b.length + 1) false := by have h := endsN_1 (b := b) (f := f) he hi (by rw [← hnk]; dsimp only; omega); (try rw [← hnk] at h); exact h
        rw [show List.replicate (b.length + 1) (Value.bool false) = List.map boolV (List.replicate (b.length + 1) false) by rw [List.map_replicate]; rfl] at hs
        obtain ⟨G9, hG9, hf9, hs⟩ := hs.fixRow (fun k hk => noMh hs ⟨fun _ h => h, fun _ h => h, trivial⟩ k hk)
        exact ⟨_, _, hs, es, clk, rfl, hM.mono hG9, Ext.refl _ _, bools_of (by rw [hen]; exact hf9) hzl.symm⟩

theorem ends_all {l : List NodeV} {b : List UInt8} (he : errF 0 l = 0) (hcls : ∀ n ∈ l, ClsOk n.c) (hbl : b.length ≤ 2000000) : ∀ i, i < l.length → EndsC l b i := by
  intro i
  induction i using Nat.strongRecOn with
  | ind i ih => intro hi; exact ends_ok hi (cmp_ok hi he hcls hbl (fun j hj => ih j hj (by omega)))
def matchF (l : List NodeV) (b : List UInt8) : Bool := if validF l = 0 then (endsN l b (l.length - 1) 0).getD b.length false else false


set_option maxHeartbeats 400000 in
set_option maxRecDepth 10000 in
theorem match_ok {G : Ghost} {v wv : Value} {l : List NodeV} {b : List UInt8} (hx : Rx G v l) (hw : Bytes G wv b) (hl : l.length ≤ 1000000000) (hbl : b.length ≤ 2000000) :
  FnOk Tryz.prog 21 [v, wv] G [] fun r _ H' => H' = [] ∧ r = .bool (matchF l b) := by
 obtain ⟨A, cap, rfl⟩ := LstR.slice hx
 obtain ⟨Aw, cw, rfl, _⟩ := id hw
 have hcls := rx_cls hx
 refine FnOk.of_T [(0, _), (1, _)] Tryz.func21 rfl Tryz.ntmps21 (by simp) rfl fun w0 hs => ?_
 have hx0 := hx
 have hw0 := hw
 refine T_seq (T_region rfl ?_)
 refine O_a rfl ?_
 refine O_nil (T_kp [0, 1] rfl ?_)
 refine T_seq (T_seq (T_region rfl ?_))
 refine O_m rfl ?_
 refine O_s (S_call (H1 := []) hs rfl Tryz.func24 rfl (by kernel_rfl) (valid_ok hx hl) fun v1 G' H' _ hR hG7 hs => ?_)
 obtain ⟨rfl, rfl⟩ := hR
 replace hs : St _ _ [] _ := hs
 replace hx := hx.mono hG7
 replace hw := hw.mono hG7
 refine O_y hs (Y_cmpS rfl rfl rfl (fun h8 => ?_) (fun h8 => ?_))
 ·
  dsimp only [cmpP] at h8
  refine O_nil (T_kp [0, 1, 8] rfl ?_)
  refine T_condT rfl (T_seq (T_region rfl ?_))
  refine O_a rfl ?_
  refine O_nil (T_kp [4] rfl ?_)
  refine T_ret ?_
  refine Rt_fin (vs := [_]) Tryz.results21 rfl ⟨rfl, trivial⟩ ?_
  try dsimp only [tup]
  exact ⟨_, [], hs.done, rfl, by unfold matchF; rw [if_neg (by omega)]⟩
 ·
  dsimp only [cmpP] at h8
  refine O_nil (T_kp [0, 1, 8] rfl ?_)
  refine T_condF rfl (T_skip ?_)
  have hv0 : validF l = 0 := by omega
  have hv1 := ones_of hv0
  have hel := endsN_len l b (l.length - 1) 0
  refine T_seq (T_region rfl ?_)
  refine O_m rfl ?_
  refine O_m rfl ?_
  refine O_s (S_makeMap hs fun b11 _ hs => ?_)
  refine O_y hs (Y_build Tryz.zeroValue74 rfl PL74 rfl (cs := [_, _, _]) rfl ?_)
  refine O_s (S_box hs rfl (cs := [_, _, _]) rfl fun b13 _ hs => ?_)
  refine O_a rfl ?_
  refine O_nil (T_kp [0, 1, 5] rfl ?_)
  refine T_seq (T_region rfl ?_)
  refine O_m rfl ?_
  refine O_m rfl ?_
  refine O_y hs (Y_len Tryz.underlying24 rfl ?_)
  refine O_y hs (Y_sub (c := ((l.length - 1 : Nat) : Int)) rfl rfl (by omega) (by omega) ?_)
  have hs := hs.f1
  have hs := hs.f1
  refine O_s (S_call (H1 := [_, _]) hs rfl Tryz.func42 rfl (by kernel_rfl) (ends_all (b := b) hv1.2.2.1 hcls hbl (l.length - 1) (by omega) _ b13 b11 0 _ _ [] 0 hx hw (fun _ h => by cases h) (Nat.zero_le _)) fun v2 G' H' _ hR hG18 hs => ?_)
  obtain ⟨es2, clk2, rfl, hM2, hX2, hB2⟩ := hR
  replace hs : St _ _ [_, _] _ := hs
  replace hx := hx.mono hG18
  replace hw := hw.mono hG18
  refine O_m rfl ?_
  refine O_y hs (Y_len Tryz.underlying30 rfl ?_)
  refine O_y hs (Y_idx1 b.length Tryz.underlying75 Tryz.sizeOf4 hB2 rfl rfl rfl (bool_row (by omega)) fun p21 hp21 => ?_)
  refine O_y hs (Y_ldG Tryz.isAgg4 rfl (hp21) ?_)
  refine O_a rfl ?_
  refine O_nil (T_kp [4] rfl ?_)
  refine T_ret ?_
  refine Rt_fin (vs := [_]) Tryz.results21 rfl ⟨rfl, trivial⟩ ?_
  try dsimp only [tup]
  exact ⟨_, [], hs.done, rfl, by unfold matchF; rw [if_pos hv0, List.getD_eq_getElem?_getD, List.getElem?_eq_getElem (by omega)]; rfl⟩

set_option maxHeartbeats 400000 in
set_option maxRecDepth 10000 in
theorem null_ok {G : Ghost} {v : Value} {l : List NodeV} (hx : Rx G v l) (hl : l.length ≤ 1000000000) :
  FnOk Tryz.prog 26 [v] G [] fun r _ H' => H' = [] ∧ r = .bool (matchF l []) := by
 refine FnOk.of_T [(0, _)] Tryz.func26 rfl Tryz.ntmps26 (by simp) rfl fun w0 hs => ?_
 have hx0 := hx
 refine T_seq (T_region rfl ?_)
 refine O_a rfl ?_
 refine O_nil (T_kp [0] rfl ?_)
 refine T_seq (T_region rfl ?_)
 refine O_m rfl ?_
 refine O_s (S_call (H1 := []) hs rfl Tryz.func21 rfl (by kernel_rfl) (match_ok hx (show Bytes _ _ [] from Sl.nil _ _) hl (by simp)) fun v1 G' H' _ hR hG4 hs => ?_)
 obtain ⟨rfl, rfl⟩ := hR
 replace hs : St _ _ [] _ := hs
 replace hx := hx.mono hG4
 refine O_a rfl ?_
 refine O_nil (T_kp [2] rfl ?_)
 refine T_ret ?_
 refine Rt_fin (vs := [_]) Tryz.results26 rfl ⟨rfl, trivial⟩ ?_
 try dsimp only [tup]
 exact ⟨_, [], hs.done, rfl, rfl⟩

end Go.Proofs.YtkmgbcjfidpmgaaGreatDoor
