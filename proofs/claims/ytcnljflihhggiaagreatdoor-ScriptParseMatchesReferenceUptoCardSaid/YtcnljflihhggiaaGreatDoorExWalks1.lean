import Derived.Test.YtcnljflihhggiaaGreatDoorProg
import Derived.Test.YtcnljflihhggiaaGreatDoorPlain
import Derived.Test.YtcnljflihhggiaaGreatDoorExThin
import Derived.Test.YtcnljflihhggiaaGreatDoorExOrders
import Derived.Test.YtcnljflihhggiaaGreatDoorShelf
namespace Go.Proofs.YtcnljflihhggiaaGreatDoor
open Go Go.Ex Go.RowKit
theorem FO36_1 : fieldOff Tryz.prog 36 1 = some 1 := by kernel_rfl
theorem FO36_2 : fieldOff Tryz.prog 36 2 = some 2 := by kernel_rfl
theorem FO36_3 : fieldOff Tryz.prog 36 3 = some 3 := by kernel_rfl
theorem FO62_0 : fieldOff Tryz.prog 62 0 = some 0 := by kernel_rfl
theorem FO62_1 : fieldOff Tryz.prog 62 1 = some 1 := by kernel_rfl
theorem FO66_0 : fieldOff Tryz.prog 66 0 = some 0 := by kernel_rfl
theorem FO66_1 : fieldOff Tryz.prog 66 1 = some 1 := by kernel_rfl
theorem FO76_0 : fieldOff Tryz.prog 76 0 = some 0 := by kernel_rfl
theorem FO76_1 : fieldOff Tryz.prog 76 1 = some 1 := by kernel_rfl
theorem FO76_2 : fieldOff Tryz.prog 76 2 = some 2 := by kernel_rfl
theorem FO76_3 : fieldOff Tryz.prog 76 3 = some 3 := by kernel_rfl
theorem PL36 : places Tryz.prog 36 = some [(0, 1), (1, 1), (2, 1), (3, 1)] := by kernel_rfl
theorem PL62 : places Tryz.prog 62 = some [(0, 1), (1, 1)] := by kernel_rfl
theorem PL66 : places Tryz.prog 66 = some [(0, 1), (1, 1)] := by kernel_rfl
theorem PL76 : places Tryz.prog 76 = some [(0, 1), (1, 1), (2, 1), (3, 1), (4, 1)] := by kernel_rfl
theorem TI36 : TI Tryz.prog 36 (.agg #[.int .i64 0, .int .i64 0, .int .i64 0, .slice none 0 0]) 4 48 := TI.of (by kernel_rfl)
theorem TI5 : TI Tryz.prog 5 (.int .u8 0) 1 1 := TI.of (by kernel_rfl)

/-- The value that the parser throws. -/
def errV (e : Er) : Value := .iface 62 (.agg #[.int .i64 (e.2 : Int), .int .i64 e.1])
theorem bsz (s : List UInt8) : (⟨s.toArray⟩ : ByteArray).size = s.length := by simp [ByteArray.size]
theorem wB_f {b : UInt8} (h : b = 32 ∨ b = 10) : wB b = false := by rcases h with rfl | rfl <;> decide
theorem wB_t {b : UInt8} (h : b ≠ 32) (h2 : b ≠ 10) : wB b = true := by unfold wB; simp [h, h2]
theorem b32 {b : UInt8} (h : (b.toNat : Int) = 32) : b = 32 := u8i h
theorem b10 {b : UInt8} (h : (b.toNat : Int) = 10) : b = 10 := u8i h
theorem b48 {b : UInt8} (h : (b.toNat : Int) = 48) : b = 48 := u8i h


set_option maxHeartbeats 400000 in
set_option maxRecDepth 10000 in
theorem expect_ok {G : Ghost} {p : Nat} {s : List UInt8} {q : Nat} (hq : q ≤ s.length) (hl : s.length ≤ 2000000) {b : UInt8} :
  FnX Tryz.prog 47 [.pointer (some ⟨p, 0, none⟩), .int .u8 (b.toNat : Int)] G [.blk p 66 [.string ⟨s.toArray⟩, .int .i64 (q : Int)]] (fun r _ H' => expP s q b = .ok (q + 1) ∧ q < s.length ∧ H' = [.blk p 66 [.string ⟨s.toArray⟩, .int .i64 ((q + 1 : Nat) : Int)]]) (fun x _ => ∃ e, expP s q b = .error e ∧ x = errV e) := by
 have hsz := bsz s
 refine FnX.of_T [(0, _), (1, _)] Tryz.func47 rfl Tryz.ntmps47 (by simp) rfl fun w0 hs => ?_
 refine T_seq (T_block (T_seq (T_drawS [0, 1, 2, 3, 4, 5, 6, 7, 8, 9, 10] hs (by kernel_rfl) ?_)))
 replace hs := hs.drew
 refine A_take 0 rfl (by kernel_rfl) rfl hs (Y_move rfl ?_)
 refine A_take 1 rfl (by kernel_rfl) rfl hs (Y_nil rfl ?_)
 refine A_take 2 rfl (by kernel_rfl) rfl hs (Y_fieldAddr FO66_1 rfl (m := 1) rfl ?_)
 refine A_take 3 rfl (by kernel_rfl) rfl hs (Y_ld 0 Tryz.isAgg3 rfl rfl rfl ?_)
 refine A_take 4 rfl (by kernel_rfl) rfl hs (Y_move rfl ?_)
 refine A_take 5 rfl (by kernel_rfl) rfl hs (Y_nil rfl ?_)
 refine A_take 6 rfl (by kernel_rfl) rfl hs (Y_fieldAddr FO66_0 rfl (m := 0) rfl ?_)
 refine A_take 7 rfl (by kernel_rfl) rfl hs (Y_ld 0 Tryz.isAgg9 rfl rfl rfl ?_)
 refine A_take 8 rfl (by kernel_rfl) rfl hs (Y_lenS Tryz.underlying9 rfl ?_)
 refine A_take 9 rfl (by kernel_rfl) rfl hs (Y_cmpS rfl rfl rfl (fun h14 => ?_) (fun h14 => ?_))
 ·
  dsimp only [cmpP] at h14
  refine A_take 10 rfl (by kernel_rfl) rfl hs (Y_assign rfl ?_)
  refine A_done (by kernel_rfl) (T_kp [0, 1, 4] rfl ?_)
  refine T_condT rfl (T_region rfl ?_)
  refine O_m rfl ?_
  refine O_y hs (Y_nil rfl ?_)
  refine O_y hs (Y_fieldAddr FO66_1 rfl (m := 1) rfl ?_)
  refine O_y hs (Y_ld 0 Tryz.isAgg3 rfl rfl rfl ?_)
  refine O_y hs (Y_build Tryz.zeroValue62 rfl PL62 rfl (cs := [_, _]) rfl ?_)
  refine O_y hs (Y_makeInterface Tryz.underlying62 (fun _ h => by cases h) rfl ?_)
  refine O_n (S_panic rfl (fun _ => rfl) (RtX_panic rfl ⟨_, hs.done, ?_⟩))
  exact ⟨_, exp_end (by omega), rfl⟩
 ·
  dsimp only [cmpP] at h14
  refine A_take 10 rfl (by kernel_rfl) rfl hs (Y_assign rfl ?_)
  refine A_done (by kernel_rfl) (T_kp [0, 1, 4] rfl ?_)
  refine T_condF rfl (T_seq (T_drawS [0, 1, 2, 3, 4, 5, 6, 7, 8, 9, 10, 11] hs (by kernel_rfl) ?_))
  replace hs := hs.drew
  refine A_take 0 rfl (by kernel_rfl) rfl hs (Y_move rfl ?_)
  refine A_take 1 rfl (by kernel_rfl) rfl hs (Y_nil rfl ?_)
  refine A_take 2 rfl (by kernel_rfl) rfl hs (Y_fieldAddr FO66_0 rfl (m := 0) rfl ?_)
  refine A_take 3 rfl (by kernel_rfl) rfl hs (Y_ld 0 Tryz.isAgg9 rfl rfl rfl ?_)
  refine A_take 4 rfl (by kernel_rfl) rfl hs (Y_move rfl ?_)
  refine A_take 5 rfl (by kernel_rfl) rfl hs (Y_nil rfl ?_)
  refine A_take 6 rfl (by kernel_rfl) rfl hs (Y_fieldAddr FO66_1 rfl (m := 1) rfl ?_)
  refine A_take 7 rfl (by kernel_rfl) rfl hs (Y_ld 0 Tryz.isAgg3 rfl rfl rfl ?_)
  refine A_take 8 rfl (by kernel_rfl) rfl hs (Y_idxStr (b := s[q]'(by omega)) q Tryz.underlying9 rfl rfl rfl (str_at (List.getElem?_eq_getElem (by omega))) ?_)
  refine A_take 9 rfl (by kernel_rfl) rfl hs (Y_move rfl ?_)
  refine A_take 10 rfl (by kernel_rfl) rfl hs (Y_cmpS rfl rfl rfl (fun h32 => ?_) (fun h32 => ?_))
  ·
   dsimp only [cmpP] at h32
   refine A_take 11 rfl (by kernel_rfl) rfl hs (Y_assign rfl ?_)
   refine A_done (by kernel_rfl) (T_kp [0, 21] rfl ?_)
   refine T_condT rfl (T_region rfl ?_)
   refine O_m rfl ?_
   refine O_y hs (Y_nil rfl ?_)
   refine O_y hs (Y_fieldAddr FO66_1 rfl (m := 1) rfl ?_)
   refine O_y hs (Y_ld 0 Tryz.isAgg3 rfl rfl rfl ?_)
   refine O_y hs (Y_build Tryz.zeroValue62 rfl PL62 rfl (cs := [_, _]) rfl ?_)
   refine O_y hs (Y_makeInterface Tryz.underlying62 (fun _ h => by cases h) rfl ?_)
   refine O_n (S_panic rfl (fun _ => rfl) (RtX_panic rfl ⟨_, hs.done, ?_⟩))
   exact ⟨_, exp_bad (by omega) (fun h => h32 (by rw [h])), rfl⟩
  ·
   dsimp only [cmpP] at h32
   refine A_take 11 rfl (by kernel_rfl) rfl hs (Y_assign rfl ?_)
   refine A_done (by kernel_rfl) (T_kp [0, 21] rfl ?_)
   refine T_condF rfl (T_skip ?_)
   refine T_region rfl ?_
   refine O_m rfl ?_
   refine O_y hs (Y_nil rfl ?_)
   refine O_y hs (Y_fieldAddr FO66_1 rfl (m := 1) rfl ?_)
   refine O_y hs (Y_ld 0 Tryz.isAgg3 rfl rfl rfl ?_)
   refine O_y hs (Y_add (c := ((q + 1 : Nat) : Int)) rfl rfl (by omega) (by omega) ?_)
   refine O_y hs (Y_nil rfl ?_)
   refine O_y hs (Y_fieldAddr FO66_1 rfl (m := 1) rfl ?_)
   refine O_n (S_st hs Tryz.sizeOf3 rfl rfl rfl (by simp) (cs' := [_, _]) rfl fun _ hs => ?_)
   refine O_nil (RtX_finN (vs := []) Tryz.results47 rfl trivial ?_)
   try dsimp only [tup]
   exact ⟨_, _, hs, exp_ok (by omega) (u8i (by omega)), by omega, rfl⟩

set_option maxHeartbeats 400000 in
set_option maxRecDepth 10000 in
theorem wrd_ok {G : Ghost} {p : Nat} {s : List UInt8} {q : Nat} (hq : q ≤ s.length) (hl : s.length ≤ 2000000) :
  FnX Tryz.prog 43 [.pointer (some ⟨p, 0, none⟩)] G [.blk p 66 [.string ⟨s.toArray⟩, .int .i64 (q : Int)]] (fun r _ H' => ∃ w : List UInt8, wordP s q = .ok (w, q + w.length) ∧ r = .tuple #[.string ⟨w.toArray⟩, .int .i64 (q : Int)] ∧ H' = [.blk p 66 [.string ⟨s.toArray⟩, .int .i64 ((q + w.length : Nat) : Int)]]) (fun x _ => ∃ e, wordP s q = .error e ∧ x = errV e) := by
 have hsz := bsz s
 have hwl := wL_le s q
 refine FnX.of_T [(0, _)] Tryz.func43 rfl Tryz.ntmps43 (by simp) rfl fun w0 hs => ?_
 refine T_seq (T_region rfl ?_)
 refine O_a rfl ?_
 refine O_a rfl ?_
 refine O_nil (T_kp [0] rfl ?_)
 refine T_seq (T_region rfl ?_)
 refine O_m rfl ?_
 refine O_y hs (Y_nil rfl ?_)
 refine O_y hs (Y_fieldAddr FO66_1 rfl (m := 1) rfl ?_)
 refine O_y hs (Y_ld 0 Tryz.isAgg3 rfl rfl rfl ?_)
 refine O_a rfl ?_
 refine O_nil (T_kp [0, 4] rfl ?_)
 refine T_seq (T_seq (T_region rfl ?_))
 refine O_m rfl ?_
 refine O_m rfl ?_
 refine O_y hs (Y_nil rfl ?_)
 refine O_y hs (Y_fieldAddr FO66_0 rfl (m := 0) rfl ?_)
 refine O_y hs (Y_ld 0 Tryz.isAgg9 rfl rfl rfl ?_)
 refine O_y hs (Y_lenS Tryz.underlying9 rfl ?_)
 refine O_y hs (Y_cmpS rfl rfl rfl (fun h15 => ?_) (fun h15 => ?_))
 ·
  dsimp only [cmpP] at h15
  refine O_nil (T_kp [0, 4, 15] rfl ?_)
  refine T_condT rfl (T_region rfl ?_)
  refine O_m rfl ?_
  refine O_y hs (Y_build Tryz.zeroValue62 rfl PL62 rfl (cs := [_, _]) rfl ?_)
  refine O_y hs (Y_makeInterface Tryz.underlying62 (fun _ h => by cases h) rfl ?_)
  refine O_n (S_panic rfl (fun _ => rfl) (RtX_panic rfl ⟨_, hs.done, ?_⟩))
  exact ⟨_, word_end (by omega), rfl⟩
 ·
  dsimp only [cmpP] at h15
  refine O_nil (T_kp [0, 4, 15] rfl ?_)
  refine T_condF rfl (T_skip ?_)
  refine T_seq (T_block (T_loop (fun m E w => ∃ (j : Nat), j ≤ (wL s q).length ∧ m = (wL s q).length - j ∧ E = ⟨[], [(0, .pointer (some ⟨p, 0, none⟩)), (4, .int .i64 (q : Int))]⟩ ∧ St ⟨w0, G, feet [.blk p 66 [.string ⟨s.toArray⟩, .int .i64 (q : Int)]]⟩ G [.blk p 66 [.string ⟨s.toArray⟩, .int .i64 ((q + j : Nat) : Int)]] w) (L := [(0, _), (4, _)]) ⟨rfl, rfl, trivial⟩ (⟨0, by omega, rfl, rfl, hs⟩) fun m E w hI => ?_))
  obtain ⟨j, hj, rfl, rfl, hs⟩ := hI
  refine T_seq (T_seq (T_drawS [0, 1, 2, 3, 4, 5, 6, 7, 8, 9, 10, 11, 12, 13, 14, 15, 16, 17, 18, 19, 20, 21, 22, 23, 24, 25, 26, 27, 28, 29, 30, 31, 32, 33] hs (by kernel_rfl) ?_))
  replace hs := hs.drew
  refine A_take 0 rfl (by kernel_rfl) rfl hs (Y_move rfl ?_)
  refine A_take 1 rfl (by kernel_rfl) rfl hs (Y_nil rfl ?_)
  refine A_take 2 rfl (by kernel_rfl) rfl hs (Y_fieldAddr FO66_1 rfl (m := 1) rfl ?_)
  refine A_take 3 rfl (by kernel_rfl) rfl hs (Y_ld 0 Tryz.isAgg3 rfl rfl rfl ?_)
  refine A_take 4 rfl (by kernel_rfl) rfl hs (Y_move rfl ?_)
  refine A_take 5 rfl (by kernel_rfl) rfl hs (Y_nil rfl ?_)
  refine A_take 6 rfl (by kernel_rfl) rfl hs (Y_fieldAddr FO66_0 rfl (m := 0) rfl ?_)
  refine A_take 7 rfl (by kernel_rfl) rfl hs (Y_ld 0 Tryz.isAgg9 rfl rfl rfl ?_)
  refine A_take 8 rfl (by kernel_rfl) rfl hs (Y_lenS Tryz.underlying9 rfl ?_)
  refine A_take 9 rfl (by kernel_rfl) rfl hs (Y_cmpS rfl rfl rfl (fun h28 => ?_) (fun h28 => ?_))
  ·
   dsimp only [cmpP] at h28
   refine A_take 10 rfl (by kernel_rfl) rfl hs (Y_move rfl ?_)
   refine A_take 11 rfl (by kernel_rfl) rfl hs (Y_move rfl ?_)
   refine A_take 12 rfl (by kernel_rfl) rfl hs (Y_nil rfl ?_)
   refine A_take 13 rfl (by kernel_rfl) rfl hs (Y_fieldAddr FO66_0 rfl (m := 0) rfl ?_)
   refine A_take 14 rfl (by kernel_rfl) rfl hs (Y_ld 0 Tryz.isAgg9 rfl rfl rfl ?_)
   refine A_take 15 rfl (by kernel_rfl) rfl hs (Y_move rfl ?_)
   refine A_take 16 rfl (by kernel_rfl) rfl hs (Y_nil rfl ?_)
   refine A_take 17 rfl (by kernel_rfl) rfl hs (Y_fieldAddr FO66_1 rfl (m := 1) rfl ?_)
   refine A_take 18 rfl (by kernel_rfl) rfl hs (Y_ld 0 Tryz.isAgg3 rfl rfl rfl ?_)
   refine A_take 19 rfl (by kernel_rfl) rfl hs (Y_idxStr (b := s[(q + j)]'(by omega)) (q + j) Tryz.underlying9 rfl rfl rfl (str_at (List.getElem?_eq_getElem (by omega))) ?_)
   refine A_take 20 rfl (by kernel_rfl) rfl hs (Y_cmpS rfl rfl rfl (fun h39 => ?_) (fun h39 => ?_))
   ·
    dsimp only [cmpP] at h39
    refine A_take 21 rfl (by kernel_rfl) rfl hs (Y_pickT rfl rfl ?_)
    refine A_take 22 rfl (by kernel_rfl) rfl hs (Y_move rfl ?_)
    refine A_take 23 rfl (by kernel_rfl) rfl hs (Y_move rfl ?_)
    refine A_take 24 rfl (by kernel_rfl) rfl hs (Y_nil rfl ?_)
    refine A_take 25 rfl (by kernel_rfl) rfl hs (Y_fieldAddr FO66_0 rfl (m := 0) rfl ?_)
    refine A_take 26 rfl (by kernel_rfl) rfl hs (Y_ld 0 Tryz.isAgg9 rfl rfl rfl ?_)
    refine A_take 27 rfl (by kernel_rfl) rfl hs (Y_move rfl ?_)
    refine A_take 28 rfl (by kernel_rfl) rfl hs (Y_nil rfl ?_)
    refine A_take 29 rfl (by kernel_rfl) rfl hs (Y_fieldAddr FO66_1 rfl (m := 1) rfl ?_)
    refine A_take 30 rfl (by kernel_rfl) rfl hs (Y_ld 0 Tryz.isAgg3 rfl rfl rfl ?_)
    refine A_take 31 rfl (by kernel_rfl) rfl hs (Y_idxStr (b := s[(q + j)]'(by omega)) (q + j) Tryz.underlying9 rfl rfl rfl (str_at (List.getElem?_eq_getElem (by omega))) ?_)
    refine A_take 32 rfl (by kernel_rfl) rfl hs (Y_cmpS rfl rfl rfl (fun h51 => ?_) (fun h51 => ?_))
    ·
     dsimp only [cmpP] at h51
     refine A_take 33 rfl (by kernel_rfl) rfl hs (Y_pickT rfl rfl ?_)
     refine A_done (by kernel_rfl) (T_kp [0, 4, 52] rfl ?_)
     refine T_condT rfl (T_skip ?_)
     refine T_block (T_region rfl ?_)
     refine O_m rfl ?_
     refine O_y hs (Y_nil rfl ?_)
     refine O_y hs (Y_fieldAddr FO66_1 rfl (m := 1) rfl ?_)
     refine O_y hs (Y_ld 0 Tryz.isAgg3 rfl rfl rfl ?_)
     refine O_y hs (Y_add (c := ((q + j + 1 : Nat) : Int)) rfl rfl (by omega) (by omega) ?_)
     refine O_y hs (Y_nil rfl ?_)
     refine O_y hs (Y_fieldAddr FO66_1 rfl (m := 1) rfl ?_)
     refine O_n (S_st hs Tryz.sizeOf3 rfl rfl rfl (by simp) (cs' := [_, _]) rfl fun _ hs => ?_)
     have hst := wL_step (by omega) hj (wB_t (fun h => h39 (by rw [h]; rfl)) (fun h => h51 (by rw [h]; rfl)))
     refine O_nil ⟨_, ?_, [(0, _), (4, _)], ⟨rfl, rfl, trivial⟩, ⟨j + 1, by omega, rfl, rfl, hs⟩⟩
     omega
    ·
     dsimp only [cmpP] at h51
     refine A_take 33 rfl (by kernel_rfl) rfl hs (Y_pickT rfl rfl ?_)
     refine A_done (by kernel_rfl) (T_kp [0, 4, 52] rfl ?_)
     refine T_condF rfl (T_exit ?_)
     have hjw : j = (wL s q).length := wL_stop hj (by right; exact ⟨by omega, wB_f (.inr (b10 (by omega)))⟩)
     refine T_seq (T_seq (T_region rfl ?_))
     refine O_m rfl ?_
     refine O_y hs (Y_nil rfl ?_)
     refine O_y hs (Y_fieldAddr FO66_1 rfl (m := 1) rfl ?_)
     refine O_y hs (Y_ld 0 Tryz.isAgg3 rfl rfl rfl ?_)
     refine O_m rfl ?_
     refine O_y hs (Y_cmpS rfl rfl rfl (fun h65 => ?_) (fun h65 => ?_))
     ·
      dsimp only [cmpP] at h65
      refine O_nil (T_kp [0, 4, 65] rfl ?_)
      refine T_condT rfl (T_region rfl ?_)
      refine O_m rfl ?_
      refine O_y hs (Y_build Tryz.zeroValue62 rfl PL62 rfl (cs := [_, _]) rfl ?_)
      refine O_y hs (Y_makeInterface Tryz.underlying62 (fun _ h => by cases h) rfl ?_)
      refine O_n (S_panic rfl (fun _ => rfl) (RtX_panic rfl ⟨_, hs.done, ?_⟩))
      exact ⟨_, word_bad (by omega) (by omega), rfl⟩
     ·
      dsimp only [cmpP] at h65
      refine O_nil (T_kp [0, 4, 65] rfl ?_)
      refine T_condF rfl (T_skip ?_)
      refine T_seq (T_drawS [0, 1, 2, 3, 4, 5, 6, 7, 8, 9, 10, 11, 12] hs (by kernel_rfl) ?_)
      replace hs := hs.drew
      refine A_take 0 rfl (by kernel_rfl) rfl hs (Y_move rfl ?_)
      refine A_take 1 rfl (by kernel_rfl) rfl hs (Y_nil rfl ?_)
      refine A_take 2 rfl (by kernel_rfl) rfl hs (Y_fieldAddr FO66_0 rfl (m := 0) rfl ?_)
      refine A_take 3 rfl (by kernel_rfl) rfl hs (Y_ld 0 Tryz.isAgg9 rfl rfl rfl ?_)
      refine A_take 4 rfl (by kernel_rfl) rfl hs (Y_move rfl ?_)
      refine A_take 5 rfl (by kernel_rfl) rfl hs (Y_move rfl ?_)
      refine A_take 6 rfl (by kernel_rfl) rfl hs (Y_nil rfl ?_)
      refine A_take 7 rfl (by kernel_rfl) rfl hs (Y_fieldAddr FO66_1 rfl (m := 1) rfl ?_)
      refine A_take 8 rfl (by kernel_rfl) rfl hs (Y_ld 0 Tryz.isAgg3 rfl rfl rfl ?_)
      refine A_take 9 rfl (by kernel_rfl) rfl hs (Y_sliceStr q (q + j) Tryz.underlying9 rfl ⟨_, _, rfl, rfl⟩ ⟨_, _, rfl, rfl⟩ (by omega) (by omega) ?_)
      refine A_take 10 rfl (by kernel_rfl) rfl hs (Y_move rfl ?_)
      refine A_take 11 rfl (by kernel_rfl) rfl hs (Y_assign rfl ?_)
      refine A_take 12 rfl (by kernel_rfl) rfl hs (Y_assign rfl ?_)
      refine A_done (by kernel_rfl) (T_kp [2, 3] rfl ?_)
      refine T_ret ?_
      refine RtX_fin (vs := [_, _]) Tryz.results43 rfl ⟨rfl, rfl, trivial⟩ ?_
      try dsimp only [tup]
      subst hjw
      have htk : (s.drop q).take (q + (wL s q).length - q) = wL s q := by rw [Nat.add_sub_cancel_left, wL_take]
      exact ⟨_, _, hs, _, word_ok (by omega) (by omega), by rw [htk], rfl⟩
   ·
    dsimp only [cmpP] at h39
    refine A_take 21 rfl (by kernel_rfl) rfl hs (Y_pickT rfl rfl ?_)
    refine A_take 22 rfl (by kernel_rfl) rfl hs (Y_move rfl ?_)
    refine A_skip 23 rfl (by kernel_rfl) rfl hs ?_
    refine A_skip 24 rfl (by kernel_rfl) rfl hs ?_
    refine A_skip 25 rfl (by kernel_rfl) rfl hs ?_
    refine A_skip 26 rfl (by kernel_rfl) rfl hs ?_
    refine A_skip 27 rfl (by kernel_rfl) rfl hs ?_
    refine A_skip 28 rfl (by kernel_rfl) rfl hs ?_
    refine A_skip 29 rfl (by kernel_rfl) rfl hs ?_
    refine A_skip 30 rfl (by kernel_rfl) rfl hs ?_
    refine A_skip 31 rfl (by kernel_rfl) rfl hs ?_
    refine A_skip 32 rfl (by kernel_rfl) rfl hs ?_
    refine A_take 33 rfl (by kernel_rfl) rfl hs (Y_pickF rfl rfl ?_)
    refine A_done (by kernel_rfl) (T_kp [0, 4, 52] rfl ?_)
    refine T_condF rfl (T_exit ?_)
    have hjw : j = (wL s q).length := wL_stop hj (by right; exact ⟨by omega, wB_f (.inl (b32 (by omega)))⟩)
    refine T_seq (T_seq (T_region rfl ?_))
    refine O_m rfl ?_
    refine O_y hs (Y_nil rfl ?_)
    refine O_y hs (Y_fieldAddr FO66_1 rfl (m := 1) rfl ?_)
    refine O_y hs (Y_ld 0 Tryz.isAgg3 rfl rfl rfl ?_)
    refine O_m rfl ?_
    refine O_y hs (Y_cmpS rfl rfl rfl (fun h65 => ?_) (fun h65 => ?_))
    ·
     dsimp only [cmpP] at h65
     refine O_nil (T_kp [0, 4, 65] rfl ?_)
     refine T_condT rfl (T_region rfl ?_)
     refine O_m rfl ?_
     refine O_y hs (Y_build Tryz.zeroValue62 rfl PL62 rfl (cs := [_, _]) rfl ?_)
     refine O_y hs (Y_makeInterface Tryz.underlying62 (fun _ h => by cases h) rfl ?_)
     refine O_n (S_panic rfl (fun _ => rfl) (RtX_panic rfl ⟨_, hs.done, ?_⟩))
     exact ⟨_, word_bad (by omega) (by omega), rfl⟩
    ·
     dsimp only [cmpP] at h65
     refine O_nil (T_kp [0, 4, 65] rfl ?_)
     refine T_condF rfl (T_skip ?_)
     refine T_seq (T_drawS [0, 1, 2, 3, 4, 5, 6, 7, 8, 9, 10, 11, 12] hs (by kernel_rfl) ?_)
     replace hs := hs.drew
     refine A_take 0 rfl (by kernel_rfl) rfl hs (Y_move rfl ?_)
     refine A_take 1 rfl (by kernel_rfl) rfl hs (Y_nil rfl ?_)
     refine A_take 2 rfl (by kernel_rfl) rfl hs (Y_fieldAddr FO66_0 rfl (m := 0) rfl ?_)
     refine A_take 3 rfl (by kernel_rfl) rfl hs (Y_ld 0 Tryz.isAgg9 rfl rfl rfl ?_)
     refine A_take 4 rfl (by kernel_rfl) rfl hs (Y_move rfl ?_)
     refine A_take 5 rfl (by kernel_rfl) rfl hs (Y_move rfl ?_)
     refine A_take 6 rfl (by kernel_rfl) rfl hs (Y_nil rfl ?_)
     refine A_take 7 rfl (by kernel_rfl) rfl hs (Y_fieldAddr FO66_1 rfl (m := 1) rfl ?_)
     refine A_take 8 rfl (by kernel_rfl) rfl hs (Y_ld 0 Tryz.isAgg3 rfl rfl rfl ?_)
     refine A_take 9 rfl (by kernel_rfl) rfl hs (Y_sliceStr q (q + j) Tryz.underlying9 rfl ⟨_, _, rfl, rfl⟩ ⟨_, _, rfl, rfl⟩ (by omega) (by omega) ?_)
     refine A_take 10 rfl (by kernel_rfl) rfl hs (Y_move rfl ?_)
     refine A_take 11 rfl (by kernel_rfl) rfl hs (Y_assign rfl ?_)
     refine A_take 12 rfl (by kernel_rfl) rfl hs (Y_assign rfl ?_)
     refine A_done (by kernel_rfl) (T_kp [2, 3] rfl ?_)
     refine T_ret ?_
     refine RtX_fin (vs := [_, _]) Tryz.results43 rfl ⟨rfl, rfl, trivial⟩ ?_
     try dsimp only [tup]
     subst hjw
     have htk : (s.drop q).take (q + (wL s q).length - q) = wL s q := by rw [Nat.add_sub_cancel_left, wL_take]
     exact ⟨_, _, hs, _, word_ok (by omega) (by omega), by rw [htk], rfl⟩
  ·
   dsimp only [cmpP] at h28
   refine A_take 10 rfl (by kernel_rfl) rfl hs (Y_move rfl ?_)
   refine A_skip 11 rfl (by kernel_rfl) rfl hs ?_
   refine A_skip 12 rfl (by kernel_rfl) rfl hs ?_
   refine A_skip 13 rfl (by kernel_rfl) rfl hs ?_
   refine A_skip 14 rfl (by kernel_rfl) rfl hs ?_
   refine A_skip 15 rfl (by kernel_rfl) rfl hs ?_
   refine A_skip 16 rfl (by kernel_rfl) rfl hs ?_
   refine A_skip 17 rfl (by kernel_rfl) rfl hs ?_
   refine A_skip 18 rfl (by kernel_rfl) rfl hs ?_
   refine A_skip 19 rfl (by kernel_rfl) rfl hs ?_
   refine A_skip 20 rfl (by kernel_rfl) rfl hs ?_
   refine A_take 21 rfl (by kernel_rfl) rfl hs (Y_pickF rfl rfl ?_)
   refine A_take 22 rfl (by kernel_rfl) rfl hs (Y_move rfl ?_)
   refine A_skip 23 rfl (by kernel_rfl) rfl hs ?_
   refine A_skip 24 rfl (by kernel_rfl) rfl hs ?_
   refine A_skip 25 rfl (by kernel_rfl) rfl hs ?_
   refine A_skip 26 rfl (by kernel_rfl) rfl hs ?_
   refine A_skip 27 rfl (by kernel_rfl) rfl hs ?_
   refine A_skip 28 rfl (by kernel_rfl) rfl hs ?_
   refine A_skip 29 rfl (by kernel_rfl) rfl hs ?_
   refine A_skip 30 rfl (by kernel_rfl) rfl hs ?_
   refine A_skip 31 rfl (by kernel_rfl) rfl hs ?_
   refine A_skip 32 rfl (by kernel_rfl) rfl hs ?_
   refine A_take 33 rfl (by kernel_rfl) rfl hs (Y_pickF rfl rfl ?_)
   refine A_done (by kernel_rfl) (T_kp [0, 4, 52] rfl ?_)
   refine T_condF rfl (T_exit ?_)
   have hjw : j = (wL s q).length := wL_stop hj (by left; omega)
   refine T_seq (T_seq (T_region rfl ?_))
   refine O_m rfl ?_
   refine O_y hs (Y_nil rfl ?_)
   refine O_y hs (Y_fieldAddr FO66_1 rfl (m := 1) rfl ?_)
   refine O_y hs (Y_ld 0 Tryz.isAgg3 rfl rfl rfl ?_)
   refine O_m rfl ?_
   refine O_y hs (Y_cmpS rfl rfl rfl (fun h65 => ?_) (fun h65 => ?_))
   ·
    dsimp only [cmpP] at h65
    refine O_nil (T_kp [0, 4, 65] rfl ?_)
    refine T_condT rfl (T_region rfl ?_)
    refine O_m rfl ?_
    refine O_y hs (Y_build Tryz.zeroValue62 rfl PL62 rfl (cs := [_, _]) rfl ?_)
    refine O_y hs (Y_makeInterface Tryz.underlying62 (fun _ h => by cases h) rfl ?_)
    refine O_n (S_panic rfl (fun _ => rfl) (RtX_panic rfl ⟨_, hs.done, ?_⟩))
    exact ⟨_, word_bad (by omega) (by omega), rfl⟩
   ·
    dsimp only [cmpP] at h65
    refine O_nil (T_kp [0, 4, 65] rfl ?_)
    refine T_condF rfl (T_skip ?_)
    refine T_seq (T_drawS [0, 1, 2, 3, 4, 5, 6, 7, 8, 9, 10, 11, 12] hs (by kernel_rfl) ?_)
    replace hs := hs.drew
    refine A_take 0 rfl (by kernel_rfl) rfl hs (Y_move rfl ?_)
    refine A_take 1 rfl (by kernel_rfl) rfl hs (Y_nil rfl ?_)
    refine A_take 2 rfl (by kernel_rfl) rfl hs (Y_fieldAddr FO66_0 rfl (m := 0) rfl ?_)
    refine A_take 3 rfl (by kernel_rfl) rfl hs (Y_ld 0 Tryz.isAgg9 rfl rfl rfl ?_)
    refine A_take 4 rfl (by kernel_rfl) rfl hs (Y_move rfl ?_)
    refine A_take 5 rfl (by kernel_rfl) rfl hs (Y_move rfl ?_)
    refine A_take 6 rfl (by kernel_rfl) rfl hs (Y_nil rfl ?_)
    refine A_take 7 rfl (by kernel_rfl) rfl hs (Y_fieldAddr FO66_1 rfl (m := 1) rfl ?_)
    refine A_take 8 rfl (by kernel_rfl) rfl hs (Y_ld 0 Tryz.isAgg3 rfl rfl rfl ?_)
    refine A_take 9 rfl (by kernel_rfl) rfl hs (Y_sliceStr q (q + j) Tryz.underlying9 rfl ⟨_, _, rfl, rfl⟩ ⟨_, _, rfl, rfl⟩ (by omega) (by omega) ?_)
    refine A_take 10 rfl (by kernel_rfl) rfl hs (Y_move rfl ?_)
    refine A_take 11 rfl (by kernel_rfl) rfl hs (Y_assign rfl ?_)
    refine A_take 12 rfl (by kernel_rfl) rfl hs (Y_assign rfl ?_)
    refine A_done (by kernel_rfl) (T_kp [2, 3] rfl ?_)
    refine T_ret ?_
    refine RtX_fin (vs := [_, _]) Tryz.results43 rfl ⟨rfl, rfl, trivial⟩ ?_
    try dsimp only [tup]
    subst hjw
    have htk : (s.drop q).take (q + (wL s q).length - q) = wL s q := by rw [Nat.add_sub_cancel_left, wL_take]
    exact ⟨_, _, hs, _, word_ok (by omega) (by omega), by rw [htk], rfl⟩

theorem bad_1 {w : List UInt8} {k : Nat} (h : k < w.length) (hb : ¬ (48 ≤ w[k].toNat ∧ w[k].toNat ≤ 57)) : badN w k = true := by
  unfold badN; rw [bad_get h]
  have : isDig w[k] = false := by
    unfold isDig
    rw [← Bool.not_eq_true]
    intro h2; simp only [Bool.and_eq_true, decide_eq_true_eq] at h2; exact hb h2
  rw [this]; rfl
theorem bad_2 {w : List UInt8} (h : 1 < w.length) (h0 : w[0] = 48) : badN w 1 = true := by
  unfold badN; rw [bad_get (show 0 < w.length by omega), h0]; simp
theorem bad_no {w : List UInt8} {k : Nat} (h : k < w.length) (hb : 48 ≤ w[k].toNat ∧ w[k].toNat ≤ 57) (hn : k = 1 → w[0] ≠ 48) : badN w k = false := by
  unfold badN; rw [bad_get h, bad_get (show 0 < w.length by omega)]
  have : isDig w[k] = true := by unfold isDig; simp only [Bool.and_eq_true, decide_eq_true_eq]; exact hb
  rw [this]
  by_cases h1 : k = 1
  · rw [decide_eq_false (hn h1)]; simp
  · simp [h1]
theorem u8sub48 {b : UInt8} (h : 48 ≤ b.toNat) : IntKind.i64.wrap (IntKind.u8.wrap ((b.toNat : Int) - 48)) = ((b.toNat - 48 : Nat) : Int) := by
  have := b.toNat_lt
  rw [IntKind.wrap_u8, wrap64_eq (by omega)]; omega


set_option maxHeartbeats 400000 in
set_option maxRecDepth 10000 in
theorem nmb_ok {G : Ghost} {p : Nat} {s : List UInt8} {q : Nat} (hq : q ≤ s.length) (hl : s.length ≤ 2000000) :
  FnX Tryz.prog 45 [.pointer (some ⟨p, 0, none⟩)] G [.blk p 66 [.string ⟨s.toArray⟩, .int .i64 (q : Int)]] (fun r _ H' => ∃ (n q2 : Nat), numP s q = .ok (n, q2) ∧ q2 ≤ s.length ∧ r = .int .i64 (n : Int) ∧ H' = [.blk p 66 [.string ⟨s.toArray⟩, .int .i64 (q2 : Int)]]) (fun x _ => ∃ e, numP s q = .error e ∧ x = errV e) := by
 have hsz := bsz s
 refine FnX.of_T [(0, _)] Tryz.func45 rfl Tryz.ntmps45 (by simp) rfl fun w0 hs => ?_
 refine T_seq (T_region rfl ?_)
 refine O_a rfl ?_
 refine O_nil (T_kp [0] rfl ?_)
 refine T_seq (T_region rfl ?_)
 refine O_m rfl ?_
 refine O_s (S_callX (H1 := [_]) hs rfl Tryz.func47 rfl (by kernel_rfl) (expect_ok (q := q) (b := 32) (by omega) hl) (fun v G' w' hX hG hs => RtX_panic rfl ⟨_, hs.done, let ⟨e, h1, h2⟩ := hX; ⟨e, num_e1 h1, h2⟩⟩) fun v1 G' H' _ hR hG8 hs => ?_)
 obtain ⟨he, hel, rfl⟩ := hR
 replace hs : St _ _ [_] _ := hs
 refine O_nil (T_kp [0] rfl ?_)
 refine T_seq (T_region rfl ?_)
 refine O_m rfl ?_
 refine O_s (S_callX (H1 := [_]) hs rfl Tryz.func43 rfl (by kernel_rfl) (wrd_ok (q := (q + 1 : Nat)) (by omega) hl) (fun v G' w' hX hG hs => RtX_panic rfl ⟨_, hs.done, let ⟨e, h1, h2⟩ := hX; ⟨e, num_e2 he h1, h2⟩⟩) fun v2 G' H' _ hR hG11 hs => ?_)
 obtain ⟨wd, hw, rfl, rfl⟩ := hR
 replace hs : St _ _ [_] _ := hs
 have hwi := word_inv hw
 have hsw := bsz wd
 refine O_m rfl ?_
 refine O_y hs (Y_extract rfl rfl ?_)
 refine O_y hs (Y_extract rfl rfl ?_)
 refine O_a rfl ?_
 refine O_a rfl ?_
 refine O_nil (T_kp [3, 4] rfl ?_)
 refine T_seq (T_region rfl ?_)
 refine O_a rfl ?_
 refine O_nil (T_kp [3, 4, 5] rfl ?_)
 refine T_seq (T_seq (T_region rfl ?_))
 refine O_m rfl ?_
 refine O_y hs (Y_lenS Tryz.underlying9 rfl ?_)
 refine O_m rfl ?_
 refine O_nil (T_kp [3, 4, 5, 15, 16] rfl ?_)
 refine T_block (T_loop (fun m E w => ∃ (k : Nat), k ≤ wd.length ∧ (∀ i, i < k → badN wd i = false) ∧ m = wd.length - k ∧ E = ⟨[], [(3, .string ⟨wd.toArray⟩), (4, .int .i64 ((q + 1 : Nat) : Int)), (5, .int .i64 ((numL (wd.take k) : Nat) : Int)), (15, .int .i64 (wd.length : Int)), (16, .int .i64 (k : Int))]⟩ ∧ St ⟨w0, G, feet [.blk p 66 [.string ⟨s.toArray⟩, .int .i64 (q : Int)]]⟩ G' [.blk p 66 [.string ⟨s.toArray⟩, .int .i64 ((q + 1 + wd.length : Nat) : Int)]] w) (L := [(3, _), (4, _), (5, _), (15, _), (16, _)]) ⟨rfl, rfl, rfl, rfl, rfl, trivial⟩ (⟨0, by omega, fun i hi => absurd hi (by omega), rfl, rfl, hs⟩) fun m E w hI => ?_)
 obtain ⟨k, hk, hbn, rfl, rfl, hs⟩ := hI
 refine T_seq (T_region rfl ?_)
 refine O_y hs (Y_cmpS rfl rfl rfl (fun h17 => ?_) (fun h17 => ?_))
 ·
  dsimp only [cmpP] at h17
  refine O_nil (T_kp [3, 4, 5, 15, 16, 17] rfl ?_)
  refine T_seq (T_condT rfl (T_skip ?_))
  refine T_seq (T_block (T_seq (T_region rfl ?_)))
  refine O_m rfl ?_
  refine O_a rfl ?_
  refine O_nil (T_kp [3, 4, 5, 6, 15, 16] rfl ?_)
  refine T_seq (T_seq (T_region rfl ?_))
  refine O_m rfl ?_
  refine O_m rfl ?_
  refine O_y hs (Y_idxStr (b := wd[k]'(by omega)) (k) Tryz.underlying9 rfl rfl (rfl) (str_at (List.getElem?_eq_getElem (by omega))) ?_)
  refine O_y hs (Y_cmpS rfl rfl rfl (fun h22 => ?_) (fun h22 => ?_))
  ·
   dsimp only [cmpP] at h22
   refine O_m rfl ?_
   refine O_no 23 rfl rfl ?_
   refine O_no 23 rfl rfl ?_
   refine O_no 23 rfl rfl ?_
   refine O_no 23 rfl rfl ?_
   refine O_y hs (Y_pickT rfl rfl ?_)
   refine O_m rfl ?_
   refine O_no 29 rfl rfl ?_
   refine O_no 29 rfl rfl ?_
   refine O_no 29 rfl rfl ?_
   refine O_noU 32 rfl rfl ?_
   refine O_noU 32 rfl rfl ?_
   refine O_noU 32 rfl rfl ?_
   refine O_no 29 rfl rfl ?_
   refine O_y hs (Y_pickT rfl rfl ?_)
   refine O_nil (T_kp [3, 4, 5, 6, 15, 16, 37] rfl ?_)
   refine T_condT rfl (T_region rfl ?_)
   refine O_m rfl ?_
   refine O_y hs (Y_build Tryz.zeroValue62 rfl PL62 rfl (cs := [_, _]) rfl ?_)
   refine O_y hs (Y_makeInterface Tryz.underlying62 (fun _ h => by cases h) rfl ?_)
   refine O_n (S_panic rfl (fun _ => rfl) (RtX_panic rfl ⟨_, hs.done, ?_⟩))
   exact ⟨_, (num_of he hw).trans (numV_bad (i := k) (by omega) (bad_1 (by omega) (by omega))), rfl⟩
  ·
   dsimp only [cmpP] at h22
   refine O_m rfl ?_
   refine O_yy 23 hs rfl rfl (Y_move rfl ?_)
   refine O_yy 23 hs rfl rfl (Y_move rfl ?_)
   refine O_yy 23 hs rfl rfl (Y_idxStr (b := wd[k]'(by omega)) (k) Tryz.underlying9 rfl rfl (rfl) (str_at (List.getElem?_eq_getElem (by omega))) ?_)
   refine O_yy 23 hs rfl rfl (Y_cmpS rfl rfl rfl (fun h27 => ?_) (fun h27 => ?_))
   ·
    dsimp only [cmpP] at h27
    refine O_y hs (Y_pickF rfl rfl ?_)
    refine O_m rfl ?_
    refine O_no 29 rfl rfl ?_
    refine O_no 29 rfl rfl ?_
    refine O_no 29 rfl rfl ?_
    refine O_noU 32 rfl rfl ?_
    refine O_noU 32 rfl rfl ?_
    refine O_noU 32 rfl rfl ?_
    refine O_no 29 rfl rfl ?_
    refine O_y hs (Y_pickT rfl rfl ?_)
    refine O_nil (T_kp [3, 4, 5, 6, 15, 16, 37] rfl ?_)
    refine T_condT rfl (T_region rfl ?_)
    refine O_m rfl ?_
    refine O_y hs (Y_build Tryz.zeroValue62 rfl PL62 rfl (cs := [_, _]) rfl ?_)
    refine O_y hs (Y_makeInterface Tryz.underlying62 (fun _ h => by cases h) rfl ?_)
    refine O_n (S_panic rfl (fun _ => rfl) (RtX_panic rfl ⟨_, hs.done, ?_⟩))
    exact ⟨_, (num_of he hw).trans (numV_bad (i := k) (by omega) (bad_1 (by omega) (by omega))), rfl⟩
   ·
    dsimp only [cmpP] at h27
    refine O_y hs (Y_pickF rfl rfl ?_)
    refine O_m rfl ?_
    refine O_yy 29 hs rfl rfl (Y_move rfl ?_)
    refine O_yy 29 hs rfl rfl (Y_cmpS rfl rfl rfl (fun h31 => ?_) (fun h31 => ?_))
    ·
     dsimp only [cmpP] at h31
     refine O_yy 29 hs rfl rfl (Y_move rfl ?_)
     refine O_yy 32 hs rfl rfl (Y_move rfl ?_)
     refine O_yy 32 hs rfl rfl (Y_idxStr (b := wd[0]'(by omega)) (0) Tryz.underlying9 rfl rfl (rfl) (str_at (List.getElem?_eq_getElem (by omega))) ?_)
     refine O_yy 32 hs rfl rfl (Y_cmpS rfl rfl rfl (fun h35 => ?_) (fun h35 => ?_))
     ·
      dsimp only [cmpP] at h35
      refine O_yy 29 hs rfl rfl (Y_pickT rfl rfl ?_)
      refine O_y hs (Y_pickF rfl rfl ?_)
      refine O_nil (T_kp [3, 4, 5, 6, 15, 16, 37] rfl ?_)
      refine T_condT rfl (T_region rfl ?_)
      refine O_m rfl ?_
      refine O_y hs (Y_build Tryz.zeroValue62 rfl PL62 rfl (cs := [_, _]) rfl ?_)
      refine O_y hs (Y_makeInterface Tryz.underlying62 (fun _ h => by cases h) rfl ?_)
      refine O_n (S_panic rfl (fun _ => rfl) (RtX_panic rfl ⟨_, hs.done, ?_⟩))
      obtain rfl : k = 1 := by omega
      exact ⟨_, (num_of he hw).trans (numV_bad (by omega) (bad_2 (by omega) (b48 (by omega)))), rfl⟩
     ·
      dsimp only [cmpP] at h35
      refine O_yy 29 hs rfl rfl (Y_pickT rfl rfl ?_)
      refine O_y hs (Y_pickF rfl rfl ?_)
      refine O_nil (T_kp [3, 4, 5, 6, 15, 16, 37] rfl ?_)
      refine T_condF rfl (T_skip ?_)
      have hnb := bad_no (w := wd) (k := k) (by omega) (by omega) (fun _ h => h35 (by rw [h]; rfl))
      have hnl := numL_le (wd.take k)
      have hsc := numL_succ (w := wd) (k := k) (by omega)
      refine T_region rfl ?_
      refine O_m rfl ?_
      refine O_y hs (Y_mul (c := (10 * ((numL (wd.take k) : Nat) : Int))) rfl rfl (by omega) (by omega) ?_)
      refine O_m rfl ?_
      refine O_m rfl ?_
      refine O_y hs (Y_idxStr (b := wd[k]'(by omega)) (k) Tryz.underlying9 rfl rfl (rfl) (str_at (List.getElem?_eq_getElem (by omega))) ?_)
      refine O_y hs (Y_subW rfl rfl ?_)
      refine O_y hs (Y_conv Tryz.underlying5 Tryz.underlying3 (c := ((wd[k].toNat - 48 : Nat) : Int)) rfl (u8sub48 (by omega)) ?_)
      refine O_y hs (Y_add (c := ((10 * numL (wd.take k) + (wd[k].toNat - 48) : Nat) : Int)) rfl rfl (by omega) (by omega) ?_)
      refine O_y hs (Y_min (c := ((numL (wd.take (k + 1)) : Nat) : Int)) rfl rfl (by rw [hsc]; omega) ?_)
      refine O_a rfl ?_
      refine O_nil (T_kp [3, 4, 5, 15, 16] rfl ?_)
      refine T_region rfl ?_
      refine O_y hs (Y_add (c := ((k + 1 : Nat) : Int)) rfl rfl (by omega) (by omega) ?_)
      refine O_m rfl ?_
      refine O_nil ⟨_, ?_, [(3, _), (4, _), (5, _), (15, _), (16, _)], ⟨rfl, rfl, rfl, rfl, rfl, trivial⟩, ⟨k + 1, by omega, fun i hi => (Nat.lt_or_ge i k).elim (hbn i) (fun h' => by rw [show i = k by omega]; exact hnb), rfl, rfl, hs⟩⟩
      omega
    ·
     dsimp only [cmpP] at h31
     refine O_yy 29 hs rfl rfl (Y_move rfl ?_)
     refine O_no 32 rfl rfl ?_
     refine O_no 32 rfl rfl ?_
     refine O_no 32 rfl rfl ?_
     refine O_yy 29 hs rfl rfl (Y_pickF rfl rfl ?_)
     refine O_y hs (Y_pickF rfl rfl ?_)
     refine O_nil (T_kp [3, 4, 5, 6, 15, 16, 37] rfl ?_)
     refine T_condF rfl (T_skip ?_)
     have hnb := bad_no (w := wd) (k := k) (by omega) (by omega) (fun h => absurd h (by omega))
     have hnl := numL_le (wd.take k)
     have hsc := numL_succ (w := wd) (k := k) (by omega)
     refine T_region rfl ?_
     refine O_m rfl ?_
     refine O_y hs (Y_mul (c := (10 * ((numL (wd.take k) : Nat) : Int))) rfl rfl (by omega) (by omega) ?_)
     refine O_m rfl ?_
     refine O_m rfl ?_
     refine O_y hs (Y_idxStr (b := wd[k]'(by omega)) (k) Tryz.underlying9 rfl rfl (rfl) (str_at (List.getElem?_eq_getElem (by omega))) ?_)
     refine O_y hs (Y_subW rfl rfl ?_)
     refine O_y hs (Y_conv Tryz.underlying5 Tryz.underlying3 (c := ((wd[k].toNat - 48 : Nat) : Int)) rfl (u8sub48 (by omega)) ?_)
     refine O_y hs (Y_add (c := ((10 * numL (wd.take k) + (wd[k].toNat - 48) : Nat) : Int)) rfl rfl (by omega) (by omega) ?_)
     refine O_y hs (Y_min (c := ((numL (wd.take (k + 1)) : Nat) : Int)) rfl rfl (by rw [hsc]; omega) ?_)
     refine O_a rfl ?_
     refine O_nil (T_kp [3, 4, 5, 15, 16] rfl ?_)
     refine T_region rfl ?_
     refine O_y hs (Y_add (c := ((k + 1 : Nat) : Int)) rfl rfl (by omega) (by omega) ?_)
     refine O_m rfl ?_
     refine O_nil ⟨_, ?_, [(3, _), (4, _), (5, _), (15, _), (16, _)], ⟨rfl, rfl, rfl, rfl, rfl, trivial⟩, ⟨k + 1, by omega, fun i hi => (Nat.lt_or_ge i k).elim (hbn i) (fun h' => by rw [show i = k by omega]; exact hnb), rfl, rfl, hs⟩⟩
     omega
 ·
  dsimp only [cmpP] at h17
  refine O_nil (T_kp [3, 4, 5, 15, 16, 17] rfl ?_)
  refine T_seq (T_condF rfl (T_exit ?_))
  have hnl := numL_le (wd.take k)
  refine T_seq (T_seq (T_region rfl ?_))
  refine O_m rfl ?_
  refine O_y hs (Y_cmpS rfl rfl rfl (fun h52 => ?_) (fun h52 => ?_))
  ·
   dsimp only [cmpP] at h52
   refine O_nil (T_kp [4, 5, 52] rfl ?_)
   refine T_condT rfl (T_region rfl ?_)
   refine O_m rfl ?_
   refine O_y hs (Y_build Tryz.zeroValue62 rfl PL62 rfl (cs := [_, _]) rfl ?_)
   refine O_y hs (Y_makeInterface Tryz.underlying62 (fun _ h => by cases h) rfl ?_)
   refine O_n (S_panic rfl (fun _ => rfl) (RtX_panic rfl ⟨_, hs.done, ?_⟩))
   have hkw : k = wd.length := by omega
   subst hkw
   rw [List.take_length] at h52
   exact ⟨_, (num_of he hw).trans (numV_big hbn (by omega)), rfl⟩
  ·
   dsimp only [cmpP] at h52
   refine O_nil (T_kp [4, 5, 52] rfl ?_)
   refine T_condF rfl (T_skip ?_)
   refine T_seq (T_region rfl ?_)
   refine O_m rfl ?_
   refine O_a rfl ?_
   refine O_nil (T_kp [2] rfl ?_)
   refine T_ret ?_
   refine RtX_fin (vs := [_]) Tryz.results45 rfl ⟨rfl, trivial⟩ ?_
   try dsimp only [tup]
   have hkw : k = wd.length := by omega
   subst hkw
   rw [List.take_length] at h52 ⊢
   exact ⟨_, _, hs, _, _, (num_of he hw).trans (numV_ok hbn (by omega)), by omega, rfl, rfl⟩

def hexI (x : UInt8) : Int := match hexV x with | some n => (n : Int) | none => -1
theorem idx_hex : ∀ x : UInt8, Lib.indexByte [48, 49, 50, 51, 52, 53, 54, 55, 56, 57, 97, 98, 99, 100, 101, 102] x = hexI x := u8_all (by decide +kernel)
theorem hexI_ok {x : UInt8} (h : ¬ hexI x < 0) : ∃ n : Nat, hexV x = some n ∧ hexI x = (n : Int) ∧ n ≤ 15 := by
  unfold hexI at h ⊢
  cases hx : hexV x with
  | none => rw [hx] at h; exact absurd (by decide) h
  | some n => exact ⟨n, rfl, rfl, hexV_le hx⟩
theorem hexI_no {x : UInt8} (h : hexI x < 0) : hexV x = none := by
  unfold hexI at h
  cases hx : hexV x with
  | none => rfl
  | some n => rw [hx] at h; dsimp only at h; omega
theorem data_list (s : List UInt8) : (⟨s.toArray⟩ : ByteArray).data.toList = s := rfl
theorem sidx_ok {G : Ghost} {x : UInt8} : FnOk Tryz.prog 79 [.string ⟨#[48, 49, 50, 51, 52, 53, 54, 55, 56, 57, 97, 98, 99, 100, 101, 102]⟩, .int .u8 (x.toNat : Int)] G [] fun r _ H' => H' = [] ∧ r = .int .i64 (hexI x) := fun w hw =>
  (Tryz.strings_IndexByte ⟨#[48, 49, 50, 51, 52, 53, 54, 55, 56, 57, 97, 98, 99, 100, 101, 102]⟩ (x.toNat : Int) w).mono fun e w' he => by
    obtain ⟨rfl, rfl⟩ := he
    have hx : ((x.toNat : Int).toNat).toUInt8 = x := by simp
    refine ⟨_, _, _, rfl, hw, rfl, ?_⟩
    rw [hx, ← idx_hex]
theorem or16 : ∀ h l : Fin 16, bitsI .or .i64 ((16 * h.val : Nat) : Int) (l.val : Int) = ((16 * h.val + l.val : Nat) : Int) := by decide +kernel
theorem or_hl {h l : Nat} (h1 : h ≤ 15) (h2 : l ≤ 15) : bitsI .or .i64 ((16 * h : Nat) : Int) (l : Int) = ((16 * h + l : Nat) : Int) := or16 ⟨h, by omega⟩ ⟨l, by omega⟩
theorem shl4 {h : Nat} (h1 : h ≤ 15) : IntKind.i64.wrap ((h : Int) * 2 ^ (min (4 : Int).toNat IntKind.i64.bits)) = ((16 * h : Nat) : Int) := by
  show IntKind.i64.wrap ((h : Int) * 2 ^ 4) = _
  rw [wrap64_eq (by omega)]; omega
theorem u8wrap (n : Nat) : IntKind.u8.wrap (n : Int) = ((UInt8.ofNat n).toNat : Int) := by
  rw [IntKind.wrap_u8]; simp
theorem hex_step {w out : List UInt8} {i h l : Nat} (hi : i + 1 < w.length) (hh : hexV w[i] = some h) (hl : hexV w[i + 1] = some l) (hx : hexL w = (hexL (w.drop i)).map (out ++ ·)) : hexL w = (hexL (w.drop (i + 2))).map ((out ++ [UInt8.ofNat (16 * h + l)]) ++ ·) := by
  rw [hx, hexL_drop hi, hh, hl]; dsimp only
  rw [Option.map_map]; congr 1; funext z; simp
theorem hex_none {w out : List UInt8} {i : Nat} (hi : i + 1 < w.length) (hh : hexV w[i] = none ∨ hexV w[i + 1] = none) (hx : hexL w = (hexL (w.drop i)).map (out ++ ·)) : hexL w = none := by
  rw [hx, hexL_drop hi]
  rcases hh with hh | hh <;> rw [hh]
  · rfl
  · cases hexV w[i] <;> rfl
theorem hexW_dash {w : List UInt8} {p q : Nat} (h : w = [45]) : hexW w p q = .ok ([], q) := if_pos h
theorem hexW_bad {w : List UInt8} {p q : Nat} (h : ¬ w = [45]) (h2 : hexL w = none) : hexW w p q = .error (20, p) := by unfold hexW; rw [if_neg h, h2]
theorem hexW_good {w l : List UInt8} {p q : Nat} (h : ¬ w = [45]) (h2 : hexL w = some l) : hexW w p q = .ok (l, q) := by unfold hexW; rw [if_neg h, h2]


set_option maxHeartbeats 400000 in
set_option maxRecDepth 10000 in
theorem byt_ok {G : Ghost} {p : Nat} {s : List UInt8} {q : Nat} (hq : q ≤ s.length) (hl : s.length ≤ 2000000) :
  FnX Tryz.prog 46 [.pointer (some ⟨p, 0, none⟩)] G [.blk p 66 [.string ⟨s.toArray⟩, .int .i64 (q : Int)]] (fun r G' H' => ∃ (b : List UInt8) (q2 : Nat), bytesP s q = .ok (b, q2) ∧ q2 ≤ s.length ∧ Bytes G' r b ∧ H' = [.blk p 66 [.string ⟨s.toArray⟩, .int .i64 (q2 : Int)]]) (fun x _ => ∃ e, bytesP s q = .error e ∧ x = errV e) := by
 have hsz := bsz s
 refine FnX.of_T [(0, _)] Tryz.func46 rfl Tryz.ntmps46 (by simp) rfl fun w0 hs => ?_
 refine T_seq (T_region rfl ?_)
 refine O_a rfl ?_
 refine O_nil (T_kp [0] rfl ?_)
 refine T_seq (T_region rfl ?_)
 refine O_m rfl ?_
 refine O_s (S_callX (H1 := [_]) hs rfl Tryz.func47 rfl (by kernel_rfl) (expect_ok (q := q) (b := 32) (by omega) hl) (fun v G' w' hX hG hs => RtX_panic rfl ⟨_, hs.done, let ⟨e, h1, h2⟩ := hX; ⟨e, bytes_e1 h1, h2⟩⟩) fun v1 G' H' _ hR hG10 hs => ?_)
 obtain ⟨he, hel, rfl⟩ := hR
 replace hs : St _ _ [_] _ := hs
 refine O_nil (T_kp [0] rfl ?_)
 refine T_seq (T_region rfl ?_)
 refine O_m rfl ?_
 refine O_s (S_callX (H1 := [_]) hs rfl Tryz.func43 rfl (by kernel_rfl) (wrd_ok (q := (q + 1 : Nat)) (by omega) hl) (fun v G' w' hX hG hs => RtX_panic rfl ⟨_, hs.done, let ⟨e, h1, h2⟩ := hX; ⟨e, bytes_e2 he h1, h2⟩⟩) fun v2 G' H' _ hR hG13 hs => ?_)
 obtain ⟨wd, hw, rfl, rfl⟩ := hR
 replace hs : St _ _ [_] _ := hs
 have hwi := word_inv hw
 have hsw := bsz wd
 refine O_m rfl ?_
 refine O_y hs (Y_extract rfl rfl ?_)
 refine O_y hs (Y_extract rfl rfl ?_)
 refine O_a rfl ?_
 refine O_a rfl ?_
 refine O_nil (T_kp [3, 4] rfl ?_)
 refine T_seq (T_seq (T_region rfl ?_))
 refine O_m rfl ?_
 refine O_y hs (Y_strEqS rfl rfl (fun h17 => ?_) (fun h17 => ?_))
 ·
  refine O_nil (T_kp [3, 4, 17] rfl ?_)
  refine T_condT rfl (T_seq (T_region rfl ?_))
  refine O_a rfl ?_
  refine O_nil (T_kp [2] rfl ?_)
  refine T_ret ?_
  refine RtX_fin (vs := [_]) Tryz.results46 rfl ⟨rfl, trivial⟩ ?_
  try dsimp only [tup]
  exact ⟨_, _, hs, [], _, (bytes_of he hw).trans (hexW_dash h17), by omega, Sl.nil _ _, rfl⟩
 ·
  refine O_nil (T_kp [3, 4, 17] rfl ?_)
  refine T_condF rfl (T_skip ?_)
  refine T_seq (T_seq (T_region rfl ?_))
  refine O_m rfl ?_
  refine O_y hs (Y_lenS Tryz.underlying9 rfl ?_)
  refine O_y hs (Y_rem (c := ((wd.length % 2 : Nat) : Int)) rfl rfl (by omega) (by decide) (by omega) ?_)
  refine O_y hs (Y_cmpS rfl rfl rfl (fun h21 => ?_) (fun h21 => ?_))
  ·
   dsimp only [cmpP] at h21
   refine O_nil (T_kp [3, 4, 21] rfl ?_)
   refine T_condT rfl (T_region rfl ?_)
   refine O_m rfl ?_
   refine O_y hs (Y_build Tryz.zeroValue62 rfl PL62 rfl (cs := [_, _]) rfl ?_)
   refine O_y hs (Y_makeInterface Tryz.underlying62 (fun _ h => by cases h) rfl ?_)
   refine O_n (S_panic rfl (fun _ => rfl) (RtX_panic rfl ⟨_, hs.done, ?_⟩))
   exact ⟨_, (bytes_of he hw).trans (hexW_bad h17 (hexL_odd _ (by omega))), rfl⟩
  ·
   dsimp only [cmpP] at h21
   refine O_nil (T_kp [3, 4, 21] rfl ?_)
   refine T_condF rfl (T_skip ?_)
   refine T_seq (T_region rfl ?_)
   refine O_a rfl ?_
   refine O_nil (T_kp [3, 4, 5] rfl ?_)
   refine T_seq (T_seq (T_region rfl ?_))
   refine O_a rfl ?_
   refine O_nil (T_kp [3, 4, 5, 6] rfl ?_)
   have hs := hs.nilRow 5 1
   refine T_block (T_loop (fun m E w => ∃ (i : Nat) (out : List UInt8) (v5 : Value) (G2 : Ghost), i ≤ wd.length ∧ i % 2 = 0 ∧ out.length ≤ i ∧ hexL wd = (hexL (wd.drop i)).map (out ++ ·) ∧ m = wd.length - i ∧ E = ⟨[], [(3, .string ⟨wd.toArray⟩), (4, .int .i64 ((q + 1 : Nat) : Int)), (5, v5), (6, .int .i64 (i : Int))]⟩ ∧ St ⟨w0, G, feet [.blk p 66 [.string ⟨s.toArray⟩, .int .i64 (q : Int)]]⟩ G2 [.row 5 1 v5 out.length (out.map byteV), .blk p 66 [.string ⟨s.toArray⟩, .int .i64 ((q + 1 + wd.length : Nat) : Int)]] w) (L := [(3, _), (4, _), (5, _), (6, _)]) ⟨rfl, rfl, rfl, rfl, trivial⟩ (⟨0, [], _, _, by omega, rfl, by simp, by simp, rfl, rfl, hs⟩) fun m E w hI => ?_)
   obtain ⟨i, out, v5, G2, hi, hi2, hol, hhx, rfl, rfl, hs⟩ := hI
   refine T_seq (T_seq (T_region rfl ?_))
   refine O_m rfl ?_
   refine O_m rfl ?_
   refine O_y hs (Y_lenS Tryz.underlying9 rfl ?_)
   refine O_y hs (Y_cmpS rfl rfl rfl (fun h28 => ?_) (fun h28 => ?_))
   ·
    dsimp only [cmpP] at h28
    refine O_nil (T_kp [3, 4, 5, 6, 28] rfl ?_)
    refine T_condT rfl (T_skip ?_)
    have hi2 : i + 1 < wd.length := by omega
    refine T_seq (T_block (T_seq (T_drawS [0, 1, 2, 3, 4, 5, 6, 7, 8, 9, 10] hs (by kernel_rfl) ?_)))
    replace hs := hs.drew
    refine A_take 0 rfl (by kernel_rfl) rfl hs (Y_move rfl ?_)
    refine A_take 1 rfl (by kernel_rfl) rfl hs (Y_move rfl ?_)
    refine A_take 2 rfl (by kernel_rfl) rfl hs (Y_idxStr (b := wd[i]'(by omega)) (i) Tryz.underlying9 rfl rfl (by omega) (str_at (List.getElem?_eq_getElem (by omega))) ?_)
    refine A_take 4 rfl (by kernel_rfl) rfl hs (Y_move rfl ?_)
    refine A_take 5 rfl (by kernel_rfl) rfl hs (Y_move rfl ?_)
    refine A_take 6 rfl (by kernel_rfl) rfl hs (Y_add (c := ((i + 1 : Nat) : Int)) rfl rfl (by omega) (by omega) ?_)
    refine A_take 7 rfl (by kernel_rfl) rfl hs (Y_idxStr (b := wd[i + 1]'(by omega)) (i + 1) Tryz.underlying9 rfl rfl (by omega) (str_at (List.getElem?_eq_getElem (by omega))) ?_)
    have hle := hs.le
    refine A_only 3 rfl (by kernel_rfl) rfl (S_call (H1 := []) hs rfl Tryz.func79 rfl (by kernel_rfl) (sidx_ok (x := (wd[i]'(by omega)))) fun v3 G' H' _ hR hG34 hs => ?_)
    obtain ⟨rfl, rfl⟩ := hR
    replace hs : St _ _ [_, _] _ := hs
    refine A_moreS hs hle hG34 (List.Sublist.refl _) ?_
    have hle := hs.le
    refine A_only 8 rfl (by kernel_rfl) rfl (S_call (H1 := []) hs rfl Tryz.func79 rfl (by kernel_rfl) (sidx_ok (x := (wd[i + 1]'(by omega)))) fun v4 G' H' _ hR hG39 hs => ?_)
    obtain ⟨rfl, rfl⟩ := hR
    replace hs : St _ _ [_, _] _ := hs
    refine A_moreS hs hle hG39 (List.Sublist.refl _) ?_
    refine A_take 9 rfl (by kernel_rfl) rfl hs (Y_assign rfl ?_)
    refine A_take 10 rfl (by kernel_rfl) rfl hs (Y_assign rfl ?_)
    refine A_done (by kernel_rfl) (T_kp [3, 4, 5, 6, 7, 8] rfl ?_)
    refine T_seq (T_seq (T_region rfl ?_))
    refine O_m rfl ?_
    refine O_y hs (Y_cmpS rfl rfl rfl (fun h41 => ?_) (fun h41 => ?_))
    ·
     dsimp only [cmpP] at h41
     refine O_m rfl ?_
     refine O_no 42 rfl rfl ?_
     refine O_no 42 rfl rfl ?_
     refine O_y hs (Y_pickT rfl rfl ?_)
     refine O_nil (T_kp [3, 4, 5, 6, 7, 8, 45] rfl ?_)
     refine T_condT rfl (T_region rfl ?_)
     refine O_m rfl ?_
     refine O_y hs (Y_build Tryz.zeroValue62 rfl PL62 rfl (cs := [_, _]) rfl ?_)
     refine O_y hs (Y_makeInterface Tryz.underlying62 (fun _ h => by cases h) rfl ?_)
     refine O_n (S_panic rfl (fun _ => rfl) (RtX_panic rfl ⟨_, hs.done, ?_⟩))
     exact ⟨_, (bytes_of he hw).trans (hexW_bad h17 (hex_none (by omega) (.inl (hexI_no (by omega))) hhx)), rfl⟩
    ·
     dsimp only [cmpP] at h41
     refine O_m rfl ?_
     refine O_yy 42 hs rfl rfl (Y_move rfl ?_)
     refine O_yy 42 hs rfl rfl (Y_cmpS rfl rfl rfl (fun h44 => ?_) (fun h44 => ?_))
     ·
      dsimp only [cmpP] at h44
      refine O_y hs (Y_pickF rfl rfl ?_)
      refine O_nil (T_kp [3, 4, 5, 6, 7, 8, 45] rfl ?_)
      refine T_condT rfl (T_region rfl ?_)
      refine O_m rfl ?_
      refine O_y hs (Y_build Tryz.zeroValue62 rfl PL62 rfl (cs := [_, _]) rfl ?_)
      refine O_y hs (Y_makeInterface Tryz.underlying62 (fun _ h => by cases h) rfl ?_)
      refine O_n (S_panic rfl (fun _ => rfl) (RtX_panic rfl ⟨_, hs.done, ?_⟩))
      exact ⟨_, (bytes_of he hw).trans (hexW_bad h17 (hex_none (by omega) (.inr (hexI_no (by omega))) hhx)), rfl⟩
     ·
      dsimp only [cmpP] at h44
      refine O_y hs (Y_pickF rfl rfl ?_)
      refine O_nil (T_kp [3, 4, 5, 6, 7, 8, 45] rfl ?_)
      refine T_condF rfl (T_skip ?_)
      obtain ⟨h, hh1, hh2, hh3⟩ := hexI_ok (x := (wd[i]'(by omega))) (by omega)
      obtain ⟨l, hl1, hl2, hl3⟩ := hexI_ok (x := (wd[i + 1]'(by omega))) (by omega)
      refine T_region rfl ?_
      refine O_m rfl ?_
      refine O_m rfl ?_
      refine O_y hs (Y_shl (c := ((16 * h : Nat) : Int)) rfl rfl (by decide) (by rw [hh2]; exact shl4 hh3) ?_)
      refine O_m rfl ?_
      refine O_y hs (Y_bits (c := ((16 * h + l : Nat) : Int)) rfl rfl (.inr (.inl rfl)) (by rw [hl2]; exact or_hl hh3 hl3) ?_)
      refine O_y hs (Y_conv Tryz.underlying3 Tryz.underlying5 (c := ((UInt8.ofNat (16 * h + l)).toNat : Int)) rfl (u8wrap _) ?_)
      refine O_s (S_lit hs Tryz.underlying25 Tryz.sizeOf5 Tryz.zeroValue5 rfl rfl (by decide) (by decide) rfl (cs := [_]) rfl rfl fun v5 _ hs _ => ?_)
      obtain ⟨_, hG55, hl55, hs⟩ := hs.fixRow (noMi 1 hs rfl)
      refine O_s (S_append hs Tryz.underlying25 TI5 rfl (by decide) rfl rfl (hl55) (one1 rfl) (by omega) (by omega) fun v6 _ hs => ?_)
      refine O_a rfl ?_
      refine O_nil (T_kp [3, 4, 5, 6] rfl ?_)
      refine T_region rfl ?_
      refine O_m rfl ?_
      refine O_y hs (Y_add (c := ((i + 2 : Nat) : Int)) rfl rfl (by omega) (by omega) ?_)
      refine O_a rfl ?_
      refine O_nil ⟨_, ?_, [(3, _), (4, _), (5, _), (6, _)], ⟨rfl, rfl, rfl, rfl, trivial⟩, ⟨i + 2, out ++ [UInt8.ofNat (16 * h + l)], _, _, by omega, by omega, by simp; omega, hex_step (by omega) hh1 hl1 hhx, rfl, rfl, by simpa [byteV] using hs⟩⟩
      omega
   ·
    dsimp only [cmpP] at h28
    refine O_nil (T_kp [3, 4, 5, 6, 28] rfl ?_)
    refine T_condF rfl (T_exit ?_)
    refine T_seq (T_region rfl ?_)
    refine O_m rfl ?_
    refine O_a rfl ?_
    refine O_nil (T_kp [2] rfl ?_)
    refine T_ret ?_
    refine RtX_fin (vs := [_]) Tryz.results46 rfl ⟨rfl, trivial⟩ ?_
    try dsimp only [tup]
    obtain ⟨G2, hG2, hf, hs⟩ := hs.fixRow (noMi 0 hs rfl)
    have hil : i = wd.length := by omega
    have hgd : hexL wd = some out := by rw [hhx, hil, List.drop_length]; simp [hexL]
    exact ⟨_, _, hs, out, _, (bytes_of he hw).trans (hexW_good h17 hgd), by omega, hf, rfl⟩

section
variable {x : Cx} {W : World → Prop} {E : Env} {K : Value → Prop} {d : Option Tmp} {ty : TypeId} {pos : String} {aft : Array Edge} {g : Option (Nat × Bool)}
/-- An element, of several cells, of an array's value. -/
theorem Y_indexA {o p : Operand} {t e : TypeId} {n m : Nat} {kd : IntKind} {j : Int} {vs us : List Value} (i : Nat) (hu : x.P.underlying t = some (.array n e)) (hA : ∀ w, (isAgg e).run x.P w = .ok true w) (hS : ∀ w, (sizeOf e).run x.P w = .ok m w)
    (h1 : ev E o = some (.agg vs.toArray)) (h2 : ev E p = some (.int kd j)) (hj : j = (i : Int)) (hlt : i < n) (hv : (vs.drop (i * m)).take m = us) (k : K (.agg us.toArray)) : Y x W ⟨d, .index t o p, ty, pos, aft, g⟩ E K := by
  subst hj hv
  refine Y_of (v := .agg ((vs.drop (i * m)).take m).toArray) (fun f hf w _ => ?_) k
  simp [execOp, hf.ev h1, hf.ev h2, Instr.index, asIntOf, run_underlying hu, hS w, hlt, part, hA w, List.extract_eq_take_drop]
end
def fitV (k : Nat) : Value := match k with | 1 => .func (.func 73) #[] #[] | 2 => .func (.func 74) #[] #[] | 3 => .func (.func 75) #[] #[] | 4 => .func (.func 75) #[] #[] | 5 => .func (.func 74) #[] #[] | 6 => .func (.func 74) #[] #[] | 7 => .func (.func 76) #[] #[] | 8 => .func (.func 77) #[] #[] | 9 => .func (.func 78) #[] #[] | _ => .nilFunc
theorem fit_one (k : Nat) : (fitV k).oneCell' = true := by unfold fitV; split <;> rfl
theorem syn_all (k : Nat) : ([Value.string ⟨(kwF k).toArray⟩, .bool (useA k), .bool (useB k), .bool (useC k), fitV k].all fun x => x.oneCell') = true := by
  show (true && (true && (true && (true && ((fitV k).oneCell' && true))))) = true
  rw [fit_one]; rfl
def synC (k : Nat) : List Value := [.string ⟨(kwF k).toArray⟩, .bool (useA k), .bool (useB k), .bool (useC k), fitV k]
def tabC : List Value := (List.range 10).flatMap synC
theorem tab_at {k : Nat} (h : k < 10) : (tabC.drop (k * 5)).take 5 = synC k := by
  match k, h with
  | 0, _ => rfl
  | 1, _ => rfl
  | 2, _ => rfl
  | 3, _ => rfl
  | 4, _ => rfl
  | 5, _ => rfl
  | 6, _ => rfl
  | 7, _ => rfl
  | 8, _ => rfl
  | 9, _ => rfl


set_option maxHeartbeats 2000000 in
set_option maxRecDepth 10000 in
theorem table_ok {G : Ghost} :
  FnOk Tryz.prog 44 [] G [] fun r _ H' => H' = [] ∧ r = .agg tabC.toArray := by
 refine FnOk.of_T [] Tryz.func44 rfl Tryz.ntmps44 (by simp) rfl fun w0 hs => ?_
 refine T_seq (T_region rfl ?_)
 refine O_s (S_alloc hs Tryz.zeroValue100 (cs := [_, _, _, _, _, _, _, _, _, _, _, _, _, _, _, _, _, _, _, _, _, _, _, _, _, _, _, _, _, _, _, _, _, _, _, _, _, _, _, _, _, _, _, _, _, _, _, _, _, _]) rfl fun b0 _ hs => ?_)
 refine O_nil (T_kp [0] rfl ?_)
 refine T_seq (T_region rfl ?_)
 refine O_s (S_alloc hs Tryz.zeroValue100 (cs := [_, _, _, _, _, _, _, _, _, _, _, _, _, _, _, _, _, _, _, _, _, _, _, _, _, _, _, _, _, _, _, _, _, _, _, _, _, _, _, _, _, _, _, _, _, _, _, _, _, _]) rfl fun b1 _ hs => ?_)
 refine O_nil (T_kp [0, 1] rfl ?_)
 refine T_seq (T_region rfl ?_)
 refine O_y hs (Y_build Tryz.zeroValue76 rfl PL76 rfl (cs := [_, _, _, _, _]) rfl ?_)
 refine O_y hs (Y_idxArr 1 Tryz.underlying100 Tryz.sizeOf76 rfl rfl rfl (by decide) (m := 5) rfl ?_)
 refine O_n (S_stA hs Tryz.sizeOf76 rfl rfl (vs := [_, _, _, _, _]) rfl (rfl) (by simp) (cs' := [_, _, _, _, _, _, _, _, _, _, _, _, _, _, _, _, _, _, _, _, _, _, _, _, _, _, _, _, _, _, _, _, _, _, _, _, _, _, _, _, _, _, _, _, _, _, _, _, _, _]) rfl fun _ hs => ?_)
 refine O_nil (T_kp [0, 1] rfl ?_)
 refine T_seq (T_region rfl ?_)
 refine O_y hs (Y_build Tryz.zeroValue76 rfl PL76 rfl (cs := [_, _, _, _, _]) rfl ?_)
 refine O_y hs (Y_idxArr 2 Tryz.underlying100 Tryz.sizeOf76 rfl rfl rfl (by decide) (m := 10) rfl ?_)
 refine O_n (S_stA hs Tryz.sizeOf76 rfl rfl (vs := [_, _, _, _, _]) rfl (rfl) (by simp) (cs' := [_, _, _, _, _, _, _, _, _, _, _, _, _, _, _, _, _, _, _, _, _, _, _, _, _, _, _, _, _, _, _, _, _, _, _, _, _, _, _, _, _, _, _, _, _, _, _, _, _, _]) rfl fun _ hs => ?_)
 refine O_nil (T_kp [0, 1] rfl ?_)
 refine T_seq (T_region rfl ?_)
 refine O_y hs (Y_build Tryz.zeroValue76 rfl PL76 rfl (cs := [_, _, _, _, _]) rfl ?_)
 refine O_y hs (Y_idxArr 3 Tryz.underlying100 Tryz.sizeOf76 rfl rfl rfl (by decide) (m := 15) rfl ?_)
 refine O_n (S_stA hs Tryz.sizeOf76 rfl rfl (vs := [_, _, _, _, _]) rfl (rfl) (by simp) (cs' := [_, _, _, _, _, _, _, _, _, _, _, _, _, _, _, _, _, _, _, _, _, _, _, _, _, _, _, _, _, _, _, _, _, _, _, _, _, _, _, _, _, _, _, _, _, _, _, _, _, _]) rfl fun _ hs => ?_)
 refine O_nil (T_kp [0, 1] rfl ?_)
 refine T_seq (T_region rfl ?_)
 refine O_y hs (Y_build Tryz.zeroValue76 rfl PL76 rfl (cs := [_, _, _, _, _]) rfl ?_)
 refine O_y hs (Y_idxArr 4 Tryz.underlying100 Tryz.sizeOf76 rfl rfl rfl (by decide) (m := 20) rfl ?_)
 refine O_n (S_stA hs Tryz.sizeOf76 rfl rfl (vs := [_, _, _, _, _]) rfl (rfl) (by simp) (cs' := [_, _, _, _, _, _, _, _, _, _, _, _, _, _, _, _, _, _, _, _, _, _, _, _, _, _, _, _, _, _, _, _, _, _, _, _, _, _, _, _, _, _, _, _, _, _, _, _, _, _]) rfl fun _ hs => ?_)
 refine O_nil (T_kp [0, 1] rfl ?_)
 refine T_seq (T_region rfl ?_)
 refine O_y hs (Y_build Tryz.zeroValue76 rfl PL76 rfl (cs := [_, _, _, _, _]) rfl ?_)
 refine O_y hs (Y_idxArr 5 Tryz.underlying100 Tryz.sizeOf76 rfl rfl rfl (by decide) (m := 25) rfl ?_)
 refine O_n (S_stA hs Tryz.sizeOf76 rfl rfl (vs := [_, _, _, _, _]) rfl (rfl) (by simp) (cs' := [_, _, _, _, _, _, _, _, _, _, _, _, _, _, _, _, _, _, _, _, _, _, _, _, _, _, _, _, _, _, _, _, _, _, _, _, _, _, _, _, _, _, _, _, _, _, _, _, _, _]) rfl fun _ hs => ?_)
 refine O_nil (T_kp [0, 1] rfl ?_)
 refine T_seq (T_region rfl ?_)
 refine O_y hs (Y_build Tryz.zeroValue76 rfl PL76 rfl (cs := [_, _, _, _, _]) rfl ?_)
 refine O_y hs (Y_idxArr 6 Tryz.underlying100 Tryz.sizeOf76 rfl rfl rfl (by decide) (m := 30) rfl ?_)
 refine O_n (S_stA hs Tryz.sizeOf76 rfl rfl (vs := [_, _, _, _, _]) rfl (rfl) (by simp) (cs' := [_, _, _, _, _, _, _, _, _, _, _, _, _, _, _, _, _, _, _, _, _, _, _, _, _, _, _, _, _, _, _, _, _, _, _, _, _, _, _, _, _, _, _, _, _, _, _, _, _, _]) rfl fun _ hs => ?_)
 refine O_nil (T_kp [0, 1] rfl ?_)
 refine T_seq (T_region rfl ?_)
 refine O_y hs (Y_build Tryz.zeroValue76 rfl PL76 rfl (cs := [_, _, _, _, _]) rfl ?_)
 refine O_y hs (Y_idxArr 7 Tryz.underlying100 Tryz.sizeOf76 rfl rfl rfl (by decide) (m := 35) rfl ?_)
 refine O_n (S_stA hs Tryz.sizeOf76 rfl rfl (vs := [_, _, _, _, _]) rfl (rfl) (by simp) (cs' := [_, _, _, _, _, _, _, _, _, _, _, _, _, _, _, _, _, _, _, _, _, _, _, _, _, _, _, _, _, _, _, _, _, _, _, _, _, _, _, _, _, _, _, _, _, _, _, _, _, _]) rfl fun _ hs => ?_)
 refine O_nil (T_kp [0, 1] rfl ?_)
 refine T_seq (T_region rfl ?_)
 refine O_y hs (Y_build Tryz.zeroValue76 rfl PL76 rfl (cs := [_, _, _, _, _]) rfl ?_)
 refine O_y hs (Y_idxArr 8 Tryz.underlying100 Tryz.sizeOf76 rfl rfl rfl (by decide) (m := 40) rfl ?_)
 refine O_n (S_stA hs Tryz.sizeOf76 rfl rfl (vs := [_, _, _, _, _]) rfl (rfl) (by simp) (cs' := [_, _, _, _, _, _, _, _, _, _, _, _, _, _, _, _, _, _, _, _, _, _, _, _, _, _, _, _, _, _, _, _, _, _, _, _, _, _, _, _, _, _, _, _, _, _, _, _, _, _]) rfl fun _ hs => ?_)
 refine O_nil (T_kp [0, 1] rfl ?_)
 refine T_seq (T_region rfl ?_)
 refine O_y hs (Y_build Tryz.zeroValue76 rfl PL76 rfl (cs := [_, _, _, _, _]) rfl ?_)
 refine O_y hs (Y_idxArr 9 Tryz.underlying100 Tryz.sizeOf76 rfl rfl rfl (by decide) (m := 45) rfl ?_)
 refine O_n (S_stA hs Tryz.sizeOf76 rfl rfl (vs := [_, _, _, _, _]) rfl (rfl) (by simp) (cs' := [_, _, _, _, _, _, _, _, _, _, _, _, _, _, _, _, _, _, _, _, _, _, _, _, _, _, _, _, _, _, _, _, _, _, _, _, _, _, _, _, _, _, _, _, _, _, _, _, _, _]) rfl fun _ hs => ?_)
 refine O_nil (T_kp [0, 1] rfl ?_)
 refine T_seq (T_region rfl ?_)
 refine O_y hs (Y_ldA 0 Tryz.isAgg100 Tryz.sizeOf100 rfl rfl (vs := [_, _, _, _, _, _, _, _, _, _, _, _, _, _, _, _, _, _, _, _, _, _, _, _, _, _, _, _, _, _, _, _, _, _, _, _, _, _, _, _, _, _, _, _, _, _, _, _, _, _]) rfl rfl ?_)
 have hs := hs.f1
 refine O_n (S_stA hs Tryz.sizeOf100 rfl rfl (vs := [_, _, _, _, _, _, _, _, _, _, _, _, _, _, _, _, _, _, _, _, _, _, _, _, _, _, _, _, _, _, _, _, _, _, _, _, _, _, _, _, _, _, _, _, _, _, _, _, _, _]) rfl (rfl) (by simp) (cs' := [_, _, _, _, _, _, _, _, _, _, _, _, _, _, _, _, _, _, _, _, _, _, _, _, _, _, _, _, _, _, _, _, _, _, _, _, _, _, _, _, _, _, _, _, _, _, _, _, _, _]) rfl fun _ hs => ?_)
 refine O_nil (T_kp [0] rfl ?_)
 refine T_ret ?_
 have hr := hs
 refine Rt_fin (vs := [_]) Tryz.results44 rfl ⟨ResOk_blk 0 hr Tryz.isAgg100 Tryz.sizeOf100 rfl (cs := [_, _, _, _, _, _, _, _, _, _, _, _, _, _, _, _, _, _, _, _, _, _, _, _, _, _, _, _, _, _, _, _, _, _, _, _, _, _, _, _, _, _, _, _, _, _, _, _, _, _]) rfl rfl, trivial⟩ ?_
 try dsimp only [tup]
 exact ⟨_, [], hs.done, rfl, rfl⟩

theorem ev_all {G : Ghost} {v : Value} {b : List UInt8} {k a c : Int} (h : Bytes G v b) : ([Value.int .i64 k, .int .i64 a, .int .i64 c, v].all fun x => x.oneCell') = true := by
  show (true && (true && (true && (v.oneCell' && true)))) = true
  rw [h.one]; rfl
theorem aP_t {s : List UInt8} {u : Bool} {q n q2 : Nat} (hu : u = true) (h : numP s q = .ok (n, q2)) : aP s u q = .ok (n, q2) := by unfold aP; rw [if_pos hu]; exact h
theorem aP_f {s : List UInt8} {u : Bool} {q : Nat} (hu : u = false) : aP s u q = .ok (0, q) := if_neg (by rw [hu]; simp)
theorem aP_e {s : List UInt8} {u : Bool} {q : Nat} {e : Er} (hu : u = true) (h : numP s q = .error e) : aP s u q = .error e := by unfold aP; rw [if_pos hu]; exact h
theorem bP_t {s b : List UInt8} {u : Bool} {q q2 : Nat} (hu : u = true) (h : bytesP s q = .ok (b, q2)) : bP s u q = .ok (b, q2) := by unfold bP; rw [if_pos hu]; exact h
theorem bP_f {s : List UInt8} {u : Bool} {q : Nat} (hu : u = false) : bP s u q = .ok ([], q) := if_neg (by rw [hu]; simp)
theorem bP_e {s : List UInt8} {u : Bool} {q : Nat} {e : Er} (hu : u = true) (h : bytesP s q = .error e) : bP s u q = .error e := by unfold bP; rw [if_pos hu]; exact h
theorem args_ea {s : List UInt8} {k q : Nat} {e : Er} (h : aP s (useA k) q = .error e) : argsP s k q = .error e := by unfold argsP; rw [h]
theorem args_eb {s : List UInt8} {k q a q1 : Nat} {e : Er} (ra : aP s (useA k) q = .ok (a, q1)) (h : bP s (useB k) q1 = .error e) : argsP s k q = .error e := by unfold argsP; simp only [ra, h]
theorem args_ec {s b : List UInt8} {k q a q1 q2 : Nat} {e : Er} (ra : aP s (useA k) q = .ok (a, q1)) (rb : bP s (useB k) q1 = .ok (b, q2)) (h : aP s (useC k) q2 = .error e) : argsP s k q = .error e := by unfold argsP; simp only [ra, rb, h]
theorem args_ex {s b : List UInt8} {k q a q1 q2 c q3 : Nat} {e : Er} (ra : aP s (useA k) q = .ok (a, q1)) (rb : bP s (useB k) q1 = .ok (b, q2)) (rc : aP s (useC k) q2 = .ok (c, q3)) (h : expP s q3 10 = .error e) : argsP s k q = .error e := by unfold argsP; simp only [ra, rb, rc, h]
theorem args_ok {s b : List UInt8} {k q a q1 q2 c q3 q4 : Nat} (ra : aP s (useA k) q = .ok (a, q1)) (rb : bP s (useB k) q1 = .ok (b, q2)) (rc : aP s (useC k) q2 = .ok (c, q3)) (h : expP s q3 10 = .ok q4) : argsP s k q = .ok (⟨k, a, c, b⟩, q4) := by unfold argsP; simp only [ra, rb, rc, h]


set_option maxHeartbeats 1000000 in
set_option maxRecDepth 10000 in
theorem event_ok {G : Ghost} {p : Nat} {s : List UInt8} {q : Nat} (hq : q ≤ s.length) (hl : s.length ≤ 2000000) :
  FnX Tryz.prog 26 [.pointer (some ⟨p, 0, none⟩)] G [.blk p 66 [.string ⟨s.toArray⟩, .int .i64 (q : Int)]] (fun r G' H' => ∃ (e : Ev) (q2 : Nat) (vb : Value), eventP s q = .ok (e, q2) ∧ q2 ≤ s.length ∧ r = .agg #[.int .i64 e.kind, .int .i64 e.a, .int .i64 e.c, vb] ∧ Bytes G' vb e.b ∧ H' = [.blk p 66 [.string ⟨s.toArray⟩, .int .i64 (q2 : Int)]]) (fun x _ => ∃ e, eventP s q = .error e ∧ x = errV e) := by
 have hsz := bsz s
 refine FnX.of_T [(0, _)] Tryz.func26 rfl Tryz.ntmps26 (by simp) rfl fun w0 hs => ?_
 refine T_seq (T_region rfl ?_)
 refine O_s (S_alloc hs Tryz.zeroValue36 (cs := [_, _, _, _]) rfl fun b2 _ hs => ?_)
 refine O_nil (T_kp [0, 2] rfl ?_)
 refine T_seq (T_region rfl ?_)
 refine O_m rfl ?_
 have hs := hs.f1
 refine O_s (S_callX (H1 := [_]) hs rfl Tryz.func43 rfl (by kernel_rfl) (wrd_ok (q := q) (by omega) hl) (fun v G' w' hX hG hs => RtX_panic rfl ⟨_, hs.done, let ⟨e, h1, h2⟩ := hX; ⟨e, ev_e h1, h2⟩⟩) fun v1 G' H' _ hR hG10 hs => ?_)
 obtain ⟨wd, hw, rfl, rfl⟩ := hR
 replace hs : St _ _ [_, _] _ := hs
 have hwi := word_inv hw
 have hsw := bsz wd
 refine O_m rfl ?_
 refine O_y hs (Y_extract rfl rfl ?_)
 refine O_y hs (Y_extract rfl rfl ?_)
 refine O_a rfl ?_
 refine O_a rfl ?_
 refine O_nil (T_kp [0, 2, 3, 4] rfl ?_)
 refine T_seq (T_seq (T_region rfl ?_))
 refine O_s (S_call (H1 := []) hs rfl Tryz.func44 rfl (by kernel_rfl) (table_ok) fun v2 G' H' _ hR hG13 hs => ?_)
 obtain ⟨rfl, rfl⟩ := hR
 replace hs : St _ _ [_, _] _ := hs
 refine O_m rfl ?_
 refine O_nil (T_kp [0, 2, 3, 4, 13, 14] rfl ?_)
 refine T_block (T_loop (fun m E w => ∃ (k : Nat), k ≤ 10 ∧ (∀ i, 1 ≤ i → i < k → kwF i ≠ wd) ∧ m = 10 - k ∧ E = ⟨[], [(0, .pointer (some ⟨p, 0, none⟩)), (2, .pointer (some ⟨b2, 0, none⟩)), (3, .string ⟨wd.toArray⟩), (4, .int .i64 (q : Int)), (13, .agg tabC.toArray), (14, .int .i64 (k : Int))]⟩ ∧ St ⟨w0, G, feet [.blk p 66 [.string ⟨s.toArray⟩, .int .i64 (q : Int)]]⟩ G' [.blk p 66 [.string ⟨s.toArray⟩, .int .i64 ((q + wd.length : Nat) : Int)], .blk b2 36 [.int .i64 0, .int .i64 0, .int .i64 0, .slice none 0 0]] w) (L := [(0, _), (2, _), (3, _), (4, _), (13, _), (14, _)]) ⟨rfl, rfl, rfl, rfl, rfl, rfl, trivial⟩ (⟨0, by omega, fun i h1 h2 => absurd h2 (by omega), rfl, rfl, hs⟩) fun m E w hI => ?_)
 obtain ⟨k, hk, hbk, rfl, rfl, hs⟩ := hI
 refine T_seq (T_region rfl ?_)
 refine O_y hs (Y_cmpS rfl rfl rfl (fun h15 => ?_) (fun h15 => ?_))
 ·
  dsimp only [cmpP] at h15
  refine O_nil (T_kp [0, 2, 3, 4, 13, 14, 15] rfl ?_)
  refine T_seq (T_condT rfl (T_skip ?_))
  refine T_seq (T_block (T_seq (T_region rfl ?_)))
  refine O_m rfl ?_
  refine O_y hs (Y_indexA k Tryz.underlying100 Tryz.isAgg76 Tryz.sizeOf76 rfl rfl rfl (by omega) (tab_at (by omega)) ?_)
  refine O_s (S_alloc hs Tryz.zeroValue76 (cs := [_, _, _, _, _]) rfl fun b6 _ hs => ?_)
  refine O_a rfl ?_
  refine O_n (S_stA hs Tryz.sizeOf76 rfl rfl (vs := [_, _, _, _, _]) rfl ((syn_all k)) (by simp) (cs' := [_, _, _, _, _]) rfl fun _ hs => ?_)
  refine O_nil (T_kp [0, 2, 3, 4, 5, 6, 13, 14] rfl ?_)
  refine T_seq (T_seq (T_region rfl ?_))
  refine O_m rfl ?_
  refine O_y hs (Y_cmpS rfl rfl rfl (fun h19 => ?_) (fun h19 => ?_))
  ·
   dsimp only [cmpP] at h19
   refine O_m rfl ?_
   refine O_no 20 rfl rfl ?_
   refine O_no 20 rfl rfl ?_
   refine O_no 20 rfl rfl ?_
   refine O_no 20 rfl rfl ?_
   refine O_y hs (Y_pickT rfl rfl ?_)
   refine O_nil (T_kp [0, 2, 3, 4, 5, 6, 13, 14, 25] rfl ?_)
   refine T_condT rfl (T_exit ?_)
   refine T_region rfl ?_
   refine O_y hs (Y_add (c := ((k + 1 : Nat) : Int)) rfl rfl (by omega) (by omega) ?_)
   refine O_m rfl ?_
   have hs := hs.f2
   have hs := hs.f2
   have hs := hs.f2
   refine O_nil ⟨_, ?_, [(0, _), (2, _), (3, _), (4, _), (13, _), (14, _)], ⟨rfl, rfl, rfl, rfl, rfl, rfl, trivial⟩, ⟨k + 1, by omega, fun i h1 h2 => (Nat.lt_or_ge i k).elim (hbk i h1) (fun h' => by rw [show i = k by omega]; omega), rfl, rfl, hs.drop⟩⟩
   omega
  ·
   dsimp only [cmpP] at h19
   refine O_m rfl ?_
   refine O_yy 20 hs rfl rfl (Y_fieldAddr FO76_0 rfl (m := 0) rfl ?_)
   refine O_yy 20 hs rfl rfl (Y_ld 0 Tryz.isAgg9 rfl rfl rfl ?_)
   refine O_yy 20 hs rfl rfl (Y_move rfl ?_)
   refine O_yy 20 hs rfl rfl (Y_strNeS rfl rfl (fun h24 => ?_) (fun h24 => ?_))
   ·
    refine O_y hs (Y_pickF rfl rfl ?_)
    refine O_nil (T_kp [0, 2, 3, 4, 5, 6, 13, 14, 25] rfl ?_)
    refine T_condT rfl (T_exit ?_)
    refine T_region rfl ?_
    refine O_y hs (Y_add (c := ((k + 1 : Nat) : Int)) rfl rfl (by omega) (by omega) ?_)
    refine O_m rfl ?_
    have hs := hs.f2
    have hs := hs.f2
    have hs := hs.f2
    refine O_nil ⟨_, ?_, [(0, _), (2, _), (3, _), (4, _), (13, _), (14, _)], ⟨rfl, rfl, rfl, rfl, rfl, rfl, trivial⟩, ⟨k + 1, by omega, fun i h1 h2 => (Nat.lt_or_ge i k).elim (hbk i h1) (fun h' => by rw [show i = k by omega]; exact h24), rfl, rfl, hs.drop⟩⟩
    omega
   ·
    refine O_y hs (Y_pickF rfl rfl ?_)
    refine O_nil (T_kp [0, 2, 3, 4, 5, 6, 13, 14, 25] rfl ?_)
    refine T_condF rfl (T_skip ?_)
    have hek := ev_kind (k := k) hw (by omega) (by omega) h24
    refine T_seq (T_region rfl ?_)
    refine O_m rfl ?_
    refine O_y hs (Y_build Tryz.zeroValue36 rfl PL36 rfl (cs := [_, _, _, _]) rfl ?_)
    refine O_s (S_alloc hs Tryz.zeroValue36 (cs := [_, _, _, _]) rfl fun b7 _ hs => ?_)
    refine O_n (S_stA hs Tryz.sizeOf36 rfl rfl (vs := [_, _, _, _]) rfl (rfl) (by simp) (cs' := [_, _, _, _]) rfl fun _ hs => ?_)
    refine O_nil (T_kp [0, 2, 6, 7] rfl ?_)
    refine T_seq (T_seq (T_region rfl ?_))
    refine O_y hs (Y_fieldAddr FO76_1 rfl (m := 1) rfl ?_)
    refine O_y hs (Y_ld 1 Tryz.isAgg4 rfl rfl rfl ?_)
    refine O_nil (T_kp [0, 2, 6, 7, 29] rfl ?_)
    refine T_condS rfl (fun hA => ?_) (fun hA => ?_)
    ·
     refine T_region rfl ?_
     refine O_m rfl ?_
     have hs := hs.f2
     refine O_s (S_callX (H1 := [_]) hs rfl Tryz.func45 rfl (by kernel_rfl) (nmb_ok (q := (q + wd.length : Nat)) (by omega) hl) (fun v G' w' hX hG hs => RtX_panic rfl ⟨_, hs.done, let ⟨e, h1, h2⟩ := hX; ⟨e, hek.trans (args_ea (aP_e hA h1)), h2⟩⟩) fun v3 G' H' _ hR hG31 hs => ?_)
     obtain ⟨a, qa, hna, hqqa, rfl, rfl⟩ := hR
     replace hs : St _ _ [_, _, _, _] _ := hs
     have ra := aP_t hA hna
     refine O_y hs (Y_fieldAddr FO36_1 rfl (m := 1) rfl ?_)
     have hs := hs.f1
     refine O_n (S_st hs Tryz.sizeOf3 rfl rfl rfl (by simp) (cs' := [_, _, _, _]) rfl fun _ hs => ?_)
     refine O_nil (T_kp [0, 2, 6, 7] rfl ?_)
     refine T_seq (T_seq (T_region rfl ?_))
     refine O_y hs (Y_fieldAddr FO76_2 rfl (m := 2) rfl ?_)
     refine O_y hs (Y_ld 2 Tryz.isAgg4 rfl rfl rfl ?_)
     refine O_nil (T_kp [0, 2, 6, 7, 34] rfl ?_)
     refine T_condS rfl (fun hB => ?_) (fun hB => ?_)
     ·
      refine T_region rfl ?_
      refine O_m rfl ?_
      have hs := hs.f1
      refine O_s (S_callX (H1 := [_]) hs rfl Tryz.func46 rfl (by kernel_rfl) (byt_ok (q := qa) (by omega) hl) (fun v G' w' hX hG hs => RtX_panic rfl ⟨_, hs.done, let ⟨e, h1, h2⟩ := hX; ⟨e, hek.trans (args_eb ra (bP_e hB h1)), h2⟩⟩) fun v4 G' H' _ hR hG36 hs => ?_)
      obtain ⟨b, qb, hnb, hqb, hb36, rfl⟩ := hR
      replace hs : St _ _ [_, _, _, _] _ := hs
      have rb := bP_t hB hnb
      refine O_y hs (Y_fieldAddr FO36_3 rfl (m := 3) rfl ?_)
      have hs := hs.f1
      refine O_n (S_st hs Tryz.sizeOf25 rfl rfl hb36.one (by simp) (cs' := [_, _, _, _]) rfl fun _ hs => ?_)
      refine O_nil (T_kp [0, 2, 6, 7] rfl ?_)
      refine T_seq (T_seq (T_region rfl ?_))
      refine O_y hs (Y_fieldAddr FO76_3 rfl (m := 3) rfl ?_)
      refine O_y hs (Y_ld 2 Tryz.isAgg4 rfl rfl rfl ?_)
      refine O_nil (T_kp [0, 2, 7, 39] rfl ?_)
      refine T_condS rfl (fun hC => ?_) (fun hC => ?_)
      ·
       refine T_region rfl ?_
       refine O_m rfl ?_
       have hs := hs.f1
       refine O_s (S_callX (H1 := [_]) hs rfl Tryz.func45 rfl (by kernel_rfl) (nmb_ok (q := qb) (by omega) hl) (fun v G' w' hX hG hs => RtX_panic rfl ⟨_, hs.done, let ⟨e, h1, h2⟩ := hX; ⟨e, hek.trans (args_ec ra rb (aP_e hC h1)), h2⟩⟩) fun v5 G' H' _ hR hG41 hs => ?_)
       obtain ⟨cc, qc, hnc, hqqc, rfl, rfl⟩ := hR
       replace hs : St _ _ [_, _, _, _] _ := hs
       replace hb36 := hb36.mono hG41
       have rc := aP_t hC hnc
       refine O_y hs (Y_fieldAddr FO36_2 rfl (m := 2) rfl ?_)
       have hs := hs.f1
       refine O_n (S_st hs Tryz.sizeOf3 rfl rfl rfl (by simp) (cs' := [_, _, _, _]) rfl fun _ hs => ?_)
       refine O_nil (T_kp [0, 2, 7] rfl ?_)
       refine T_seq (T_region rfl ?_)
       refine O_m rfl ?_
       have hs := hs.f1
       refine O_s (S_callX (H1 := [_]) hs rfl Tryz.func47 rfl (by kernel_rfl) (expect_ok (q := qc) (b := 10) (by omega) hl) (fun v G' w' hX hG hs => RtX_panic rfl ⟨_, hs.done, let ⟨e, h1, h2⟩ := hX; ⟨e, hek.trans (args_ex ra rb rc h1), h2⟩⟩) fun v6 G' H' _ hR hG44 hs => ?_)
       obtain ⟨he, hel, rfl⟩ := hR
       replace hs : St _ _ [_, _, _, _] _ := hs
       replace hb36 := hb36.mono hG44
       refine O_nil (T_kp [2, 7] rfl ?_)
       refine T_seq (T_region rfl ?_)
       refine O_y hs (Y_ldA 1 Tryz.isAgg36 Tryz.sizeOf36 rfl rfl (vs := [_, _, _, _]) rfl rfl ?_)
       have hs := hs.f3
       refine O_n (S_stA hs Tryz.sizeOf36 rfl rfl (vs := [_, _, _, _]) rfl ((ev_all hb36)) (by simp) (cs' := [_, _, _, _]) rfl fun _ hs => ?_)
       refine O_nil (T_kp [2] rfl ?_)
       refine T_ret ?_
       have hs := hs.f1
       have hr := hs
       refine RtX_fin (vs := [_]) Tryz.results26 rfl ⟨ResOk_blk 1 hr Tryz.isAgg36 Tryz.sizeOf36 rfl (cs := [_, _, _, _]) rfl rfl, trivial⟩ ?_
       try dsimp only [tup]
       exact ⟨_, _, hs.weak hs.le (Ghost.le.refl _) (List.sublist_append_left [_] _), _, _, _, hek.trans (args_ok ra rb rc he), by omega, rfl, hb36, rfl⟩
      ·
       have rc := aP_f (s := s) (q := qb) hC
       refine T_skip ?_
       refine T_seq (T_region rfl ?_)
       refine O_m rfl ?_
       have hs := hs.f1
       refine O_s (S_callX (H1 := [_]) hs rfl Tryz.func47 rfl (by kernel_rfl) (expect_ok (q := qb) (b := 10) (by omega) hl) (fun v G' w' hX hG hs => RtX_panic rfl ⟨_, hs.done, let ⟨e, h1, h2⟩ := hX; ⟨e, hek.trans (args_ex ra rb rc h1), h2⟩⟩) fun v7 G' H' _ hR hG44 hs => ?_)
       obtain ⟨he, hel, rfl⟩ := hR
       replace hs : St _ _ [_, _, _, _] _ := hs
       replace hb36 := hb36.mono hG44
       refine O_nil (T_kp [2, 7] rfl ?_)
       refine T_seq (T_region rfl ?_)
       refine O_y hs (Y_ldA 1 Tryz.isAgg36 Tryz.sizeOf36 rfl rfl (vs := [_, _, _, _]) rfl rfl ?_)
       have hs := hs.f3
       refine O_n (S_stA hs Tryz.sizeOf36 rfl rfl (vs := [_, _, _, _]) rfl ((ev_all hb36)) (by simp) (cs' := [_, _, _, _]) rfl fun _ hs => ?_)
       refine O_nil (T_kp [2] rfl ?_)
       refine T_ret ?_
       have hs := hs.f1
       have hr := hs
       refine RtX_fin (vs := [_]) Tryz.results26 rfl ⟨ResOk_blk 1 hr Tryz.isAgg36 Tryz.sizeOf36 rfl (cs := [_, _, _, _]) rfl rfl, trivial⟩ ?_
       try dsimp only [tup]
       exact ⟨_, _, hs.weak hs.le (Ghost.le.refl _) (List.sublist_append_left [_] _), _, _, _, hek.trans (args_ok ra rb rc he), by omega, rfl, hb36, rfl⟩
     ·
      have rb := bP_f (s := s) (q := qa) hB
      refine T_skip ?_
      refine T_seq (T_seq (T_region rfl ?_))
      refine O_y hs (Y_fieldAddr FO76_3 rfl (m := 3) rfl ?_)
      refine O_y hs (Y_ld 2 Tryz.isAgg4 rfl rfl rfl ?_)
      refine O_nil (T_kp [0, 2, 7, 39] rfl ?_)
      refine T_condS rfl (fun hC => ?_) (fun hC => ?_)
      ·
       refine T_region rfl ?_
       refine O_m rfl ?_
       have hs := hs.f1
       refine O_s (S_callX (H1 := [_]) hs rfl Tryz.func45 rfl (by kernel_rfl) (nmb_ok (q := qa) (by omega) hl) (fun v G' w' hX hG hs => RtX_panic rfl ⟨_, hs.done, let ⟨e, h1, h2⟩ := hX; ⟨e, hek.trans (args_ec ra rb (aP_e hC h1)), h2⟩⟩) fun v8 G' H' _ hR hG41 hs => ?_)
       obtain ⟨cc, qc, hnc, hqqc, rfl, rfl⟩ := hR
       replace hs : St _ _ [_, _, _, _] _ := hs
       have rc := aP_t hC hnc
       refine O_y hs (Y_fieldAddr FO36_2 rfl (m := 2) rfl ?_)
       have hs := hs.f1
       refine O_n (S_st hs Tryz.sizeOf3 rfl rfl rfl (by simp) (cs' := [_, _, _, _]) rfl fun _ hs => ?_)
       refine O_nil (T_kp [0, 2, 7] rfl ?_)
       refine T_seq (T_region rfl ?_)
       refine O_m rfl ?_
       have hs := hs.f1
       refine O_s (S_callX (H1 := [_]) hs rfl Tryz.func47 rfl (by kernel_rfl) (expect_ok (q := qc) (b := 10) (by omega) hl) (fun v G' w' hX hG hs => RtX_panic rfl ⟨_, hs.done, let ⟨e, h1, h2⟩ := hX; ⟨e, hek.trans (args_ex ra rb rc h1), h2⟩⟩) fun v9 G' H' _ hR hG44 hs => ?_)
       obtain ⟨he, hel, rfl⟩ := hR
       replace hs : St _ _ [_, _, _, _] _ := hs
       refine O_nil (T_kp [2, 7] rfl ?_)
       refine T_seq (T_region rfl ?_)
       refine O_y hs (Y_ldA 1 Tryz.isAgg36 Tryz.sizeOf36 rfl rfl (vs := [_, _, _, _]) rfl rfl ?_)
       have hs := hs.f3
       refine O_n (S_stA hs Tryz.sizeOf36 rfl rfl (vs := [_, _, _, _]) rfl (rfl) (by simp) (cs' := [_, _, _, _]) rfl fun _ hs => ?_)
       refine O_nil (T_kp [2] rfl ?_)
       refine T_ret ?_
       have hs := hs.f1
       have hr := hs
       refine RtX_fin (vs := [_]) Tryz.results26 rfl ⟨ResOk_blk 1 hr Tryz.isAgg36 Tryz.sizeOf36 rfl (cs := [_, _, _, _]) rfl rfl, trivial⟩ ?_
       try dsimp only [tup]
       exact ⟨_, _, hs.weak hs.le (Ghost.le.refl _) (List.sublist_append_left [_] _), _, _, _, hek.trans (args_ok ra rb rc he), by omega, rfl, (Sl.nil _ _), rfl⟩
      ·
       have rc := aP_f (s := s) (q := qa) hC
       refine T_skip ?_
       refine T_seq (T_region rfl ?_)
       refine O_m rfl ?_
       have hs := hs.f1
       refine O_s (S_callX (H1 := [_]) hs rfl Tryz.func47 rfl (by kernel_rfl) (expect_ok (q := qa) (b := 10) (by omega) hl) (fun v G' w' hX hG hs => RtX_panic rfl ⟨_, hs.done, let ⟨e, h1, h2⟩ := hX; ⟨e, hek.trans (args_ex ra rb rc h1), h2⟩⟩) fun v10 G' H' _ hR hG44 hs => ?_)
       obtain ⟨he, hel, rfl⟩ := hR
       replace hs : St _ _ [_, _, _, _] _ := hs
       refine O_nil (T_kp [2, 7] rfl ?_)
       refine T_seq (T_region rfl ?_)
       refine O_y hs (Y_ldA 1 Tryz.isAgg36 Tryz.sizeOf36 rfl rfl (vs := [_, _, _, _]) rfl rfl ?_)
       have hs := hs.f3
       refine O_n (S_stA hs Tryz.sizeOf36 rfl rfl (vs := [_, _, _, _]) rfl (rfl) (by simp) (cs' := [_, _, _, _]) rfl fun _ hs => ?_)
       refine O_nil (T_kp [2] rfl ?_)
       refine T_ret ?_
       have hs := hs.f1
       have hr := hs
       refine RtX_fin (vs := [_]) Tryz.results26 rfl ⟨ResOk_blk 1 hr Tryz.isAgg36 Tryz.sizeOf36 rfl (cs := [_, _, _, _]) rfl rfl, trivial⟩ ?_
       try dsimp only [tup]
       exact ⟨_, _, hs.weak hs.le (Ghost.le.refl _) (List.sublist_append_left [_] _), _, _, _, hek.trans (args_ok ra rb rc he), by omega, rfl, (Sl.nil _ _), rfl⟩
    ·
     have ra := aP_f (s := s) (q := q + wd.length) hA
     refine T_skip ?_
     refine T_seq (T_seq (T_region rfl ?_))
     refine O_y hs (Y_fieldAddr FO76_2 rfl (m := 2) rfl ?_)
     refine O_y hs (Y_ld 1 Tryz.isAgg4 rfl rfl rfl ?_)
     refine O_nil (T_kp [0, 2, 6, 7, 34] rfl ?_)
     refine T_condS rfl (fun hB => ?_) (fun hB => ?_)
     ·
      refine T_region rfl ?_
      refine O_m rfl ?_
      have hs := hs.f2
      refine O_s (S_callX (H1 := [_]) hs rfl Tryz.func46 rfl (by kernel_rfl) (byt_ok (q := (q + wd.length : Nat)) (by omega) hl) (fun v G' w' hX hG hs => RtX_panic rfl ⟨_, hs.done, let ⟨e, h1, h2⟩ := hX; ⟨e, hek.trans (args_eb ra (bP_e hB h1)), h2⟩⟩) fun v11 G' H' _ hR hG36 hs => ?_)
      obtain ⟨b, qb, hnb, hqb, hb36, rfl⟩ := hR
      replace hs : St _ _ [_, _, _, _] _ := hs
      have rb := bP_t hB hnb
      refine O_y hs (Y_fieldAddr FO36_3 rfl (m := 3) rfl ?_)
      have hs := hs.f1
      refine O_n (S_st hs Tryz.sizeOf25 rfl rfl hb36.one (by simp) (cs' := [_, _, _, _]) rfl fun _ hs => ?_)
      refine O_nil (T_kp [0, 2, 6, 7] rfl ?_)
      refine T_seq (T_seq (T_region rfl ?_))
      refine O_y hs (Y_fieldAddr FO76_3 rfl (m := 3) rfl ?_)
      refine O_y hs (Y_ld 2 Tryz.isAgg4 rfl rfl rfl ?_)
      refine O_nil (T_kp [0, 2, 7, 39] rfl ?_)
      refine T_condS rfl (fun hC => ?_) (fun hC => ?_)
      ·
       refine T_region rfl ?_
       refine O_m rfl ?_
       have hs := hs.f1
       refine O_s (S_callX (H1 := [_]) hs rfl Tryz.func45 rfl (by kernel_rfl) (nmb_ok (q := qb) (by omega) hl) (fun v G' w' hX hG hs => RtX_panic rfl ⟨_, hs.done, let ⟨e, h1, h2⟩ := hX; ⟨e, hek.trans (args_ec ra rb (aP_e hC h1)), h2⟩⟩) fun v12 G' H' _ hR hG41 hs => ?_)
       obtain ⟨cc, qc, hnc, hqqc, rfl, rfl⟩ := hR
       replace hs : St _ _ [_, _, _, _] _ := hs
       replace hb36 := hb36.mono hG41
       have rc := aP_t hC hnc
       refine O_y hs (Y_fieldAddr FO36_2 rfl (m := 2) rfl ?_)
       have hs := hs.f1
       refine O_n (S_st hs Tryz.sizeOf3 rfl rfl rfl (by simp) (cs' := [_, _, _, _]) rfl fun _ hs => ?_)
       refine O_nil (T_kp [0, 2, 7] rfl ?_)
       refine T_seq (T_region rfl ?_)
       refine O_m rfl ?_
       have hs := hs.f1
       refine O_s (S_callX (H1 := [_]) hs rfl Tryz.func47 rfl (by kernel_rfl) (expect_ok (q := qc) (b := 10) (by omega) hl) (fun v G' w' hX hG hs => RtX_panic rfl ⟨_, hs.done, let ⟨e, h1, h2⟩ := hX; ⟨e, hek.trans (args_ex ra rb rc h1), h2⟩⟩) fun v13 G' H' _ hR hG44 hs => ?_)
       obtain ⟨he, hel, rfl⟩ := hR
       replace hs : St _ _ [_, _, _, _] _ := hs
       replace hb36 := hb36.mono hG44
       refine O_nil (T_kp [2, 7] rfl ?_)
       refine T_seq (T_region rfl ?_)
       refine O_y hs (Y_ldA 1 Tryz.isAgg36 Tryz.sizeOf36 rfl rfl (vs := [_, _, _, _]) rfl rfl ?_)
       have hs := hs.f3
       refine O_n (S_stA hs Tryz.sizeOf36 rfl rfl (vs := [_, _, _, _]) rfl ((ev_all hb36)) (by simp) (cs' := [_, _, _, _]) rfl fun _ hs => ?_)
       refine O_nil (T_kp [2] rfl ?_)
       refine T_ret ?_
       have hs := hs.f1
       have hr := hs
       refine RtX_fin (vs := [_]) Tryz.results26 rfl ⟨ResOk_blk 1 hr Tryz.isAgg36 Tryz.sizeOf36 rfl (cs := [_, _, _, _]) rfl rfl, trivial⟩ ?_
       try dsimp only [tup]
       exact ⟨_, _, hs.weak hs.le (Ghost.le.refl _) (List.sublist_append_left [_] _), _, _, _, hek.trans (args_ok ra rb rc he), by omega, rfl, hb36, rfl⟩
      ·
       have rc := aP_f (s := s) (q := qb) hC
       refine T_skip ?_
       refine T_seq (T_region rfl ?_)
       refine O_m rfl ?_
       have hs := hs.f1
       refine O_s (S_callX (H1 := [_]) hs rfl Tryz.func47 rfl (by kernel_rfl) (expect_ok (q := qb) (b := 10) (by omega) hl) (fun v G' w' hX hG hs => RtX_panic rfl ⟨_, hs.done, let ⟨e, h1, h2⟩ := hX; ⟨e, hek.trans (args_ex ra rb rc h1), h2⟩⟩) fun v14 G' H' _ hR hG44 hs => ?_)
       obtain ⟨he, hel, rfl⟩ := hR
       replace hs : St _ _ [_, _, _, _] _ := hs
       replace hb36 := hb36.mono hG44
       refine O_nil (T_kp [2, 7] rfl ?_)
       refine T_seq (T_region rfl ?_)
       refine O_y hs (Y_ldA 1 Tryz.isAgg36 Tryz.sizeOf36 rfl rfl (vs := [_, _, _, _]) rfl rfl ?_)
       have hs := hs.f3
       refine O_n (S_stA hs Tryz.sizeOf36 rfl rfl (vs := [_, _, _, _]) rfl ((ev_all hb36)) (by simp) (cs' := [_, _, _, _]) rfl fun _ hs => ?_)
       refine O_nil (T_kp [2] rfl ?_)
       refine T_ret ?_
       have hs := hs.f1
       have hr := hs
       refine RtX_fin (vs := [_]) Tryz.results26 rfl ⟨ResOk_blk 1 hr Tryz.isAgg36 Tryz.sizeOf36 rfl (cs := [_, _, _, _]) rfl rfl, trivial⟩ ?_
       try dsimp only [tup]
       exact ⟨_, _, hs.weak hs.le (Ghost.le.refl _) (List.sublist_append_left [_] _), _, _, _, hek.trans (args_ok ra rb rc he), by omega, rfl, hb36, rfl⟩
     ·
      have rb := bP_f (s := s) (q := (q + wd.length : Nat)) hB
      refine T_skip ?_
      refine T_seq (T_seq (T_region rfl ?_))
      refine O_y hs (Y_fieldAddr FO76_3 rfl (m := 3) rfl ?_)
      refine O_y hs (Y_ld 1 Tryz.isAgg4 rfl rfl rfl ?_)
      refine O_nil (T_kp [0, 2, 7, 39] rfl ?_)
      refine T_condS rfl (fun hC => ?_) (fun hC => ?_)
      ·
       refine T_region rfl ?_
       refine O_m rfl ?_
       have hs := hs.f2
       refine O_s (S_callX (H1 := [_]) hs rfl Tryz.func45 rfl (by kernel_rfl) (nmb_ok (q := (q + wd.length : Nat)) (by omega) hl) (fun v G' w' hX hG hs => RtX_panic rfl ⟨_, hs.done, let ⟨e, h1, h2⟩ := hX; ⟨e, hek.trans (args_ec ra rb (aP_e hC h1)), h2⟩⟩) fun v15 G' H' _ hR hG41 hs => ?_)
       obtain ⟨cc, qc, hnc, hqqc, rfl, rfl⟩ := hR
       replace hs : St _ _ [_, _, _, _] _ := hs
       have rc := aP_t hC hnc
       refine O_y hs (Y_fieldAddr FO36_2 rfl (m := 2) rfl ?_)
       have hs := hs.f1
       refine O_n (S_st hs Tryz.sizeOf3 rfl rfl rfl (by simp) (cs' := [_, _, _, _]) rfl fun _ hs => ?_)
       refine O_nil (T_kp [0, 2, 7] rfl ?_)
       refine T_seq (T_region rfl ?_)
       refine O_m rfl ?_
       have hs := hs.f1
       refine O_s (S_callX (H1 := [_]) hs rfl Tryz.func47 rfl (by kernel_rfl) (expect_ok (q := qc) (b := 10) (by omega) hl) (fun v G' w' hX hG hs => RtX_panic rfl ⟨_, hs.done, let ⟨e, h1, h2⟩ := hX; ⟨e, hek.trans (args_ex ra rb rc h1), h2⟩⟩) fun v16 G' H' _ hR hG44 hs => ?_)
       obtain ⟨he, hel, rfl⟩ := hR
       replace hs : St _ _ [_, _, _, _] _ := hs
       refine O_nil (T_kp [2, 7] rfl ?_)
       refine T_seq (T_region rfl ?_)
       refine O_y hs (Y_ldA 1 Tryz.isAgg36 Tryz.sizeOf36 rfl rfl (vs := [_, _, _, _]) rfl rfl ?_)
       have hs := hs.f3
       refine O_n (S_stA hs Tryz.sizeOf36 rfl rfl (vs := [_, _, _, _]) rfl (rfl) (by simp) (cs' := [_, _, _, _]) rfl fun _ hs => ?_)
       refine O_nil (T_kp [2] rfl ?_)
       refine T_ret ?_
       have hs := hs.f1
       have hr := hs
       refine RtX_fin (vs := [_]) Tryz.results26 rfl ⟨ResOk_blk 1 hr Tryz.isAgg36 Tryz.sizeOf36 rfl (cs := [_, _, _, _]) rfl rfl, trivial⟩ ?_
       try dsimp only [tup]
       exact ⟨_, _, hs.weak hs.le (Ghost.le.refl _) (List.sublist_append_left [_] _), _, _, _, hek.trans (args_ok ra rb rc he), by omega, rfl, (Sl.nil _ _), rfl⟩
      ·
       have rc := aP_f (s := s) (q := (q + wd.length : Nat)) hC
       refine T_skip ?_
       refine T_seq (T_region rfl ?_)
       refine O_m rfl ?_
       have hs := hs.f2
       refine O_s (S_callX (H1 := [_]) hs rfl Tryz.func47 rfl (by kernel_rfl) (expect_ok (q := (q + wd.length : Nat)) (b := 10) (by omega) hl) (fun v G' w' hX hG hs => RtX_panic rfl ⟨_, hs.done, let ⟨e, h1, h2⟩ := hX; ⟨e, hek.trans (args_ex ra rb rc h1), h2⟩⟩) fun v17 G' H' _ hR hG44 hs => ?_)
       obtain ⟨he, hel, rfl⟩ := hR
       replace hs : St _ _ [_, _, _, _] _ := hs
       refine O_nil (T_kp [2, 7] rfl ?_)
       refine T_seq (T_region rfl ?_)
       refine O_y hs (Y_ldA 1 Tryz.isAgg36 Tryz.sizeOf36 rfl rfl (vs := [_, _, _, _]) rfl rfl ?_)
       have hs := hs.f3
       refine O_n (S_stA hs Tryz.sizeOf36 rfl rfl (vs := [_, _, _, _]) rfl (rfl) (by simp) (cs' := [_, _, _, _]) rfl fun _ hs => ?_)
       refine O_nil (T_kp [2] rfl ?_)
       refine T_ret ?_
       have hs := hs.f1
       have hr := hs
       refine RtX_fin (vs := [_]) Tryz.results26 rfl ⟨ResOk_blk 1 hr Tryz.isAgg36 Tryz.sizeOf36 rfl (cs := [_, _, _, _]) rfl rfl, trivial⟩ ?_
       try dsimp only [tup]
       exact ⟨_, _, hs.weak hs.le (Ghost.le.refl _) (List.sublist_append_left [_] _), _, _, _, hek.trans (args_ok ra rb rc he), by omega, rfl, (Sl.nil _ _), rfl⟩
 ·
  dsimp only [cmpP] at h15
  refine O_nil (T_kp [0, 2, 3, 4, 13, 14, 15] rfl ?_)
  refine T_seq (T_condF rfl (T_exit ?_))
  refine T_region rfl ?_
  refine O_m rfl ?_
  refine O_y hs (Y_build Tryz.zeroValue62 rfl PL62 rfl (cs := [_, _]) rfl ?_)
  refine O_y hs (Y_makeInterface Tryz.underlying62 (fun _ h => by cases h) rfl ?_)
  refine O_n (S_panic rfl (fun _ => rfl) (RtX_panic rfl ⟨_, hs.done, ?_⟩))
  exact ⟨_, ev_zero hw (kind_zero (fun i h1 h2 => hbk i h1 (by omega))), rfl⟩

set_option maxHeartbeats 400000 in
set_option maxRecDepth 10000 in
theorem rest_nil {c : Ctx} {G : Ghost} {w : World} {p2 p3 p4 : Nat} {H : List Res} (hs : St c G H w) :
  T ⟨Tryz.prog, 21, none⟩ (restOf Tryz.f25) (Rt Tryz.prog 21 Tryz.f25 fun _ w' => w' = w) ⟨[], [(3, .nilIface), (6, .nilIface), (0, .pointer (some ⟨p2, 0, none⟩)), (1, .pointer (some ⟨p3, 0, none⟩)), (2, .pointer (some ⟨p4, 0, none⟩))]⟩ w := by
 refine T_seq (T_region rfl ?_)
 refine O_m rfl ?_
 refine O_y hs (Y_ifaceNeF Tryz.underlying20 rfl ?_)
 refine O_nil (T_kp [0, 1, 2, 3, 8] rfl ?_)
 refine T_condF rfl (T_skip ?_)
 try dsimp only [Ex.sq, Ex.lp, Ex.bk]
 try rw [show Nat.beq _ _ = true from Nat.beq_refl _, cond_true]
 refine Rt_finN (vs := []) Tryz.results25 rfl trivial ?_
 try dsimp only [tup]
 try rfl

set_option maxHeartbeats 400000 in
set_option maxRecDepth 10000 in
theorem rest_pan {c : Ctx} {G : Ghost} {w : World} {p2 p3 p4 : Nat} {e : Er} {a2 a3 a4 : Value} (hs : St c G [.blk p2 22 [a2], .blk p3 3 [a3], .blk p4 30 [a4]] w) :
  T ⟨Tryz.prog, 21, none⟩ (restOf Tryz.f25) (Rt Tryz.prog 21 Tryz.f25 fun _ w' => ∃ G', St c G' [.blk p2 22 [.slice none 0 0], .blk p3 3 [.int .i64 (e.2 : Int)], .blk p4 30 [.int .i64 e.1]] w') ⟨[], [(3, .iface 62 (.agg #[.int .i64 (e.2 : Int), .int .i64 e.1])), (6, .iface 62 (.agg #[.int .i64 (e.2 : Int), .int .i64 e.1])), (0, .pointer (some ⟨p2, 0, none⟩)), (1, .pointer (some ⟨p3, 0, none⟩)), (2, .pointer (some ⟨p4, 0, none⟩))]⟩ w := by
 refine T_seq (T_region rfl ?_)
 refine O_m rfl ?_
 refine O_y hs (Y_ifaceNeT Tryz.underlying20 rfl ?_)
 refine O_nil (T_kp [0, 1, 2, 3, 8] rfl ?_)
 refine T_condT rfl (T_seq (T_region rfl ?_))
 refine O_m rfl ?_
 refine O_y hs (Y_assertT Tryz.underlying62 (fun _ h => by cases h) rfl ?_)
 refine O_m rfl ?_
 refine O_y hs (Y_extract rfl rfl ?_)
 refine O_y hs (Y_extract rfl rfl ?_)
 refine O_s (S_alloc hs Tryz.zeroValue62 (cs := [_, _]) rfl fun b4 _ hs => ?_)
 refine O_n (S_stA hs Tryz.sizeOf62 rfl rfl (vs := [_, _]) rfl (rfl) (by simp) (cs' := [_, _]) rfl fun _ hs => ?_)
 refine O_a rfl ?_
 refine O_nil (T_kp [0, 1, 2, 3, 4, 5] rfl ?_)
 refine T_seq (T_seq (T_region rfl ?_))
 refine O_m rfl ?_
 refine O_y hs (Y_not rfl ?_)
 refine O_nil (T_kp [0, 1, 2, 3, 4, 15] rfl ?_)
 refine T_condF rfl (T_skip ?_)
 have hs := hs.f3
 have hs := hs.f3
 have hs := hs.f3
 have hsW := hs.drop.drop.drop
 refine T_drawS [0, 1, 2, 3, 4, 5, 6] hsW (by kernel_rfl) ?_
 replace hs := hs.drew
 replace hsW := hsW.drew
 refine A_take 0 rfl (by kernel_rfl) rfl hsW (Y_fieldAddr FO62_0 rfl (m := 0) rfl ?_)
 refine A_take 1 rfl (by kernel_rfl) rfl hsW (Y_ld 0 Tryz.isAgg3 rfl rfl rfl ?_)
 refine A_take 2 rfl (by kernel_rfl) rfl hsW (Y_fieldAddr FO62_1 rfl (m := 1) rfl ?_)
 refine A_take 3 rfl (by kernel_rfl) rfl hsW (Y_ld 0 Tryz.isAgg30 rfl rfl rfl ?_)
 have hle := hs.le
 refine A_onlyN 4 rfl (by kernel_rfl) rfl (S_st hs Tryz.sizeOf22 rfl rfl rfl (by simp) (cs' := [_]) rfl fun _ hs => ?_)
 have hs := hs.f2
 have hs := hs.f2
 have hs := hs.f2
 have hsW := hs.drop.drop.drop
 refine A_moreS hsW hle (Ghost.le.refl _) (List.Sublist.refl _) ?_
 have hs := hs.f1
 have hle := hs.le
 refine A_onlyN 5 rfl (by kernel_rfl) rfl (S_st hs Tryz.sizeOf3 rfl rfl rfl (by simp) (cs' := [_]) rfl fun _ hs => ?_)
 have hs := hs.f2
 have hs := hs.f1
 have hs := hs.f2
 have hsW := hs.drop.drop.drop
 refine A_moreS hsW hle (Ghost.le.refl _) (List.Sublist.refl _) ?_
 have hs := hs.f2
 have hle := hs.le
 refine A_onlyN 6 rfl (by kernel_rfl) rfl (S_st hs Tryz.sizeOf30 rfl rfl rfl (by simp) (cs' := [_]) rfl fun _ hs => ?_)
 have hs := hs.f2
 have hs := hs.f2
 have hsW := hs.drop.drop.drop
 refine A_moreS hsW hle (Ghost.le.refl _) (List.Sublist.refl _) ?_
 have hs := hs.f2
 have hs := hs.f2
 have hs := hs.f2
 refine A_done (by kernel_rfl) (Rt_finN (vs := []) Tryz.results25 rfl trivial ?_)
 try dsimp only [tup]
 exact ⟨_, hs.weak hs.le (Ghost.le.refl _) (List.sublist_append_left [_, _, _] _)⟩

def EvCs (G : Ghost) (cs : List (List Value)) (l : List Ev) : Prop := All2 (EvR G) cs l ∧ ∀ c ∈ cs, c.length = 4
theorem EvCs.mono {G G' : Ghost} (h : G.le G') {cs : List (List Value)} {l : List Ev} (hc : EvCs G cs l) : EvCs G' cs l := ⟨All2.mono (fun _ _ he => he.mono h) hc.1, hc.2⟩
theorem EvCs.nil (G : Ghost) : EvCs G [] [] := ⟨trivial, fun _ h => by cases h⟩
theorem EvCs.snoc {G : Ghost} {cs : List (List Value)} {l : List Ev} {v : Value} {e : Ev} (hc : EvCs G cs l) (hb : Bytes G v e.b) : EvCs G (cs ++ [[.int .i64 e.kind, .int .i64 e.a, .int .i64 e.c, v]]) (l ++ [e]) :=
  ⟨All2.snoc hc.1 ⟨v, rfl, hb⟩, fun c h => by
    rcases List.mem_append.1 h with h | h
    · exact hc.2 c h
    · obtain rfl := List.mem_singleton.1 h; rfl⟩
theorem flat_snoc (cs : List (List Value)) (c : List Value) : (cs ++ [c]).flatten = cs.flatten ++ c := by simp
theorem evs_of {G : Ghost} {v : Value} {n : Nat} {xs : List Value} {cs : List (List Value)} {l : List Ev} (h : Sl G v 4 n xs) (hx : xs = cs.flatten) (hn : n = l.length) (hc : EvCs G cs l) : Evs G v l := LstR.ofSl h hx hn hc.1 hc.2
theorem one4 {G : Ghost} {v : Value} {b : List UInt8} {k a c : Int} (h : Bytes G v b) : ∀ y ∈ [Value.int .i64 k, .int .i64 a, .int .i64 c, v], y.oneCell' = true := by
  intro y hy
  simp only [List.mem_cons, List.not_mem_nil, or_false] at hy
  rcases hy with rfl | rfl | rfl | rfl
  · rfl
  · rfl
  · rfl
  · exact h.one
def catE (l : List Ev) : Except Er (List Ev) → Except Er (List Ev)
  | .ok r => .ok (l ++ r)
  | .error e => .error e
theorem catE_cat (l : List Ev) (e : Ev) (r : Except Er (List Ev)) : catE l (match r with | .error e => .error e | .ok l => .ok (e :: l)) = catE (l ++ [e]) r := by
  cases r <;> simp [catE]
theorem go_end {s : List UInt8} {f q n : Nat} (h : s.length ≤ q) : parseG s f q n = .ok [] := by cases f <;> (unfold parseG; rw [if_pos h])
theorem go_400 {s : List UInt8} {f q n : Nat} (h : q < s.length) (hf : s.length ≤ q + f) (hn : n = 400) : parseG s f q n = .error (2, q) := by
  cases f with
  | zero => omega
  | succ f => unfold parseG; rw [if_neg (by omega), if_pos hn]
theorem go_err {s : List UInt8} {f q n : Nat} {e : Er} (h : q < s.length) (hf : s.length ≤ q + f) (hn : ¬ n = 400) (he : eventP s q = .error e) : parseG s f q n = .error e := by
  cases f with
  | zero => omega
  | succ f => unfold parseG; rw [if_neg (by omega), if_neg hn, he]
theorem go_ok {s : List UInt8} {f q n q1 : Nat} {e : Ev} (l : List Ev) (h : q < s.length) (hn : ¬ n = 400) (he : eventP s q = .ok (e, q1)) : catE l (parseG s (f + 1) q n) = catE (l ++ [e]) (parseG s f q1 (n + 1)) := by
  rw [← catE_cat]; congr 1
  conv => lhs; unfold parseG
  rw [if_neg (by omega), if_neg hn, he]
  rfl
theorem parse_big {s : List UInt8} (h : 4000 < s.length) : parseP s = .error (2, 0) := if_pos h
theorem parse_open {s : List UInt8} (h : ¬ 4000 < s.length) : parseP s = catE [] (parseG s s.length 0 0) := by
  unfold parseP; rw [if_neg h]; cases parseG s s.length 0 0 <;> rfl
def ParseR (G : Ghost) (v : Value) (r0 : Except Er (List Ev)) : Prop := ∃ u, Evs G u (outE r0) ∧ v = .tuple #[u, .int .i64 (outA r0 : Int), .int .i64 (outC r0)]
theorem RtD_ret0 {P : Program} {N : Nat} {E : Env} {w : World} {fn : Func} {R : Value → World → Prop} {v : Value} (hd : E.d = []) (hres : ∀ a, Ag N E a → (results fn a.tmps).run P w = .ok v w) (hR : R v w) : RtD P N fn R .ret E w := by
  intro a hA; rw [hd]; exact ⟨v, hres a hA, v, rfl, hR⟩


theorem parse_pan {E : Env} {w w0 : World} {G G' : Ghost} {b2 b3 b4 : Nat} {a2 a3 a4 : Value} {r0 : Except Er (List Ev)} {x : Value} (hd : E.d = [{ target := .fn (.func 25) [.pointer (some ⟨b2, 0, none⟩), .pointer (some ⟨b3, 0, none⟩), .pointer (some ⟨b4, 0, none⟩)].toArray, args := #[] }]) (h2 : eget E.l 2 = some (.pointer (some ⟨b2, 0, none⟩))) (h3 : eget E.l 3 = some (.pointer (some ⟨b3, 0, none⟩))) (h4 : eget E.l 4 = some (.pointer (some ⟨b4, 0, none⟩)))
    (hs : St ⟨w0, G, feet []⟩ G' [.blk b2 22 [a2], .blk b3 3 [a3], .blk b4 30 [a4]] w) (hX : ∃ e, r0 = .error e ∧ x = errV e) : RtD Tryz.prog 33 Tryz.f14 (fun v w' => ∃ G' H', St ⟨w0, G, feet []⟩ G' H' w' ∧ H' = [] ∧ ParseR G' v r0) (.panic [{ v := x, recovered := false }]) E w := by
  obtain ⟨e, rfl, rfl⟩ := hX
  refine RtD_panic hd Tryz.func25 rfl (by kernel_rfl) ((callsD_rec Tryz.func25 (c := restOf Tryz.f25) rfl Tryz.ntmps25 (by simp) (by decide) (by decide) (.inr ⟨_, rfl, rfl, rfl⟩) (rest_pan hs)).mono ?_)
  rintro e' u' w' ⟨hy, hu, G2, hs2⟩
  exact ⟨hy, hu, _, (results_run (vs := [_, _, _]) Tryz.results14 ⟨ResOk_cell1 0 hs2 Tryz.isAgg22 h2 rfl, ResOk_cell1 1 hs2 Tryz.isAgg3 h3 rfl, ResOk_cell1 2 hs2 Tryz.isAgg30 h4 rfl, trivial⟩), _, _, hs2.done, rfl, _, LstR.nil, rfl⟩
theorem parse_ret {E : Env} {w w0 : World} {G G' : Ghost} {b2 b3 b4 : Nat} {a2 : Value} {i3 i4 : Int} {r0 : Except Er (List Ev)} (hd : E.d = [{ target := .fn (.func 25) [.pointer (some ⟨b2, 0, none⟩), .pointer (some ⟨b3, 0, none⟩), .pointer (some ⟨b4, 0, none⟩)].toArray, args := #[] }]) (h2 : eget E.l 2 = some (.pointer (some ⟨b2, 0, none⟩))) (h3 : eget E.l 3 = some (.pointer (some ⟨b3, 0, none⟩))) (h4 : eget E.l 4 = some (.pointer (some ⟨b4, 0, none⟩)))
    (hs : St ⟨w0, G, feet []⟩ G' [.blk b2 22 [a2], .blk b3 3 [.int .i64 i3], .blk b4 30 [.int .i64 i4]] w) (hR : Evs G' a2 (outE r0) ∧ i3 = (outA r0 : Int) ∧ i4 = outC r0) : RtD Tryz.prog 33 Tryz.f14 (fun v w' => ∃ G' H', St ⟨w0, G, feet []⟩ G' H' w' ∧ H' = [] ∧ ParseR G' v r0) .ret E w := by
  obtain ⟨hR, rfl, rfl⟩ := hR
  exact RtD_ret hd Tryz.func25 rfl (by kernel_rfl) (callsD_rec Tryz.func25 (c := restOf Tryz.f25) rfl Tryz.ntmps25 (by simp) (by decide) (by decide) (.inl ⟨rfl, rfl, rfl⟩) (rest_nil hs)) (results_run (vs := [_, _, _]) Tryz.results14 ⟨ResOk_cell1 0 hs Tryz.isAgg22 h2 rfl, ResOk_cell1 1 hs Tryz.isAgg3 h3 rfl, ResOk_cell1 2 hs Tryz.isAgg30 h4 rfl, trivial⟩) ⟨_, _, hs.done, rfl, _, hR, rfl⟩
theorem parse_ret0 {E : Env} {w w0 : World} {G G' : Ghost} {b2 b3 b4 : Nat} {a2 : Value} {i3 i4 : Int} {r0 : Except Er (List Ev)} (hd : E.d = []) (h2 : eget E.l 2 = some (.pointer (some ⟨b2, 0, none⟩))) (h3 : eget E.l 3 = some (.pointer (some ⟨b3, 0, none⟩))) (h4 : eget E.l 4 = some (.pointer (some ⟨b4, 0, none⟩)))
    (hs : St ⟨w0, G, feet []⟩ G' [.blk b2 22 [a2], .blk b3 3 [.int .i64 i3], .blk b4 30 [.int .i64 i4]] w) (hR : Evs G' a2 (outE r0) ∧ i3 = (outA r0 : Int) ∧ i4 = outC r0) : RtD Tryz.prog 33 Tryz.f14 (fun v w' => ∃ G' H', St ⟨w0, G, feet []⟩ G' H' w' ∧ H' = [] ∧ ParseR G' v r0) .ret E w := by
  obtain ⟨hR, rfl, rfl⟩ := hR
  exact RtD_ret0 hd (results_run (vs := [_, _, _]) Tryz.results14 ⟨ResOk_cell1 0 hs Tryz.isAgg22 h2 rfl, ResOk_cell1 1 hs Tryz.isAgg3 h3 rfl, ResOk_cell1 2 hs Tryz.isAgg30 h4 rfl, trivial⟩) ⟨_, _, hs.done, rfl, _, hR, rfl⟩


set_option maxHeartbeats 1000000 in
set_option maxRecDepth 10000 in
theorem parse_ok {G : Ghost} {s : List UInt8} (hl : s.length ≤ 2000000) :
  FnOk Tryz.prog 14 [.string ⟨s.toArray⟩] G [] fun r G' H' => H' = [] ∧ ParseR G' r (parseP s) := by
 have hsz := bsz s
 refine FnOk.of_TD [(0, _)] Tryz.func14 rfl Tryz.ntmps14 (by simp) rfl fun w0 hs => ?_
 refine T_seq (T_region rfl ?_)
 refine O_s (S_alloc hs Tryz.zeroValue22 (cs := [_]) rfl fun b2 _ hs => ?_)
 refine O_s (S_alloc hs Tryz.zeroValue3 (cs := [_]) rfl fun b3 _ hs => ?_)
 refine O_s (S_alloc hs Tryz.zeroValue30 (cs := [_]) rfl fun b4 _ hs => ?_)
 refine O_nil (T_kp [0, 2, 3, 4] rfl ?_)
 refine T_seq (T_seq (T_region rfl ?_))
 refine O_m rfl ?_
 refine O_y hs (Y_lenS Tryz.underlying9 rfl ?_)
 refine O_y hs (Y_cmpS rfl rfl rfl (fun h8 => ?_) (fun h8 => ?_))
 ·
  dsimp only [cmpP] at h8
  refine O_nil (T_kp [0, 2, 3, 4, 8] rfl ?_)
  refine T_condT rfl (T_seq (T_region rfl ?_))
  have hs := hs.f2
  refine O_n (S_st hs Tryz.sizeOf22 rfl rfl rfl (by simp) (cs' := [_]) rfl fun _ hs => ?_)
  have hs := hs.f2
  refine O_n (S_st hs Tryz.sizeOf3 rfl rfl rfl (by simp) (cs' := [_]) rfl fun _ hs => ?_)
  have hs := hs.f2
  refine O_n (S_st hs Tryz.sizeOf30 rfl rfl rfl (by simp) (cs' := [_]) rfl fun _ hs => ?_)
  refine O_nil (T_kp [2, 3, 4] rfl ?_)
  refine T_ret ?_
  have hs := hs.f1
  have hs := hs.f2
  exact parse_ret0 rfl rfl rfl rfl hs (by rw [parse_big (by omega)]; exact ⟨LstR.nil, rfl, rfl⟩)
 ·
  dsimp only [cmpP] at h8
  refine O_nil (T_kp [0, 2, 3, 4, 8] rfl ?_)
  refine T_condF rfl (T_skip ?_)
  refine T_seq (T_region rfl ?_)
  refine O_y hs (Y_makeFunc (vs := [_, _, _]) rfl ?_)
  refine O_defer (args := []) (lb := [_, _, _]) rfl rfl rfl ?_
  refine O_nil (T_kp [0, 2, 3, 4] rfl ?_)
  refine T_seq (T_region rfl ?_)
  refine O_m rfl ?_
  refine O_y hs (Y_build Tryz.zeroValue66 rfl PL66 rfl (cs := [_, _]) rfl ?_)
  refine O_s (S_box hs rfl (cs := [_, _]) rfl fun b12 _ hs => ?_)
  refine O_a rfl ?_
  refine O_nil (T_kp [0, 2, 3, 4, 5] rfl ?_)
  have hs := hs.nilRow 36 4
  have hs := hs.f2
  have hs := hs.f3
  have hs := hs.f4
  have hs := hs.f4
  have hs := hs.f4
  refine T_seq (T_block (T_loop (fun m E w => ∃ (f : Nat) (l : List Ev) (cs : List (List Value)) (q : Nat) (v : Value) (G' : Ghost), parseP s = catE l (parseG s f q l.length) ∧ EvCs G' cs l ∧ q ≤ s.length ∧ s.length ≤ q + f ∧ l.length ≤ 400 ∧ m = f ∧ E = ⟨[{ target := .fn (.func 25) [.pointer (some ⟨b2, 0, none⟩), .pointer (some ⟨b3, 0, none⟩), .pointer (some ⟨b4, 0, none⟩)].toArray, args := #[] }], [(0, .string ⟨s.toArray⟩), (2, .pointer (some ⟨b2, 0, none⟩)), (3, .pointer (some ⟨b3, 0, none⟩)), (4, .pointer (some ⟨b4, 0, none⟩)), (5, .pointer (some ⟨b12, 0, none⟩))]⟩ ∧ St ⟨w0, G, feet []⟩ G' [.row 36 4 v l.length cs.flatten, .blk b12 66 [.string ⟨s.toArray⟩, .int .i64 (q : Int)], .blk b2 22 [v], .blk b3 3 [.int .i64 0], .blk b4 30 [.int .i64 0]] w) (L := [(0, _), (2, _), (3, _), (4, _), (5, _)]) ⟨rfl, rfl, rfl, rfl, rfl, trivial⟩ (⟨s.length, [], [], 0, _, _, parse_open (by omega), EvCs.nil _, by omega, by omega, by simp, rfl, rfl, hs⟩) fun m E w hI => ?_))
  obtain ⟨f, l, cs, q, v, G', hpr, hec, hq, hqf, hl4, rfl, rfl, hs⟩ := hI
  refine T_seq (T_seq (T_region rfl ?_))
  refine O_m rfl ?_
  refine O_y hs (Y_nil rfl ?_)
  refine O_y hs (Y_fieldAddr FO66_1 rfl (m := 1) rfl ?_)
  refine O_y hs (Y_ld 1 Tryz.isAgg3 rfl rfl rfl ?_)
  refine O_m rfl ?_
  refine O_y hs (Y_lenS Tryz.underlying9 rfl ?_)
  refine O_y hs (Y_cmpS rfl rfl rfl (fun h19 => ?_) (fun h19 => ?_))
  ·
   dsimp only [cmpP] at h19
   refine O_nil (T_kp [0, 2, 3, 4, 5, 19] rfl ?_)
   refine T_condT rfl (T_skip ?_)
   refine T_block (T_seq (T_seq (T_region rfl ?_)))
   refine O_y hs (Y_ld 2 Tryz.isAgg22 rfl rfl rfl ?_)
   refine O_y hs (Y_lenOwn 0 rfl Tryz.underlying22 rfl hs ?_)
   refine O_y hs (Y_cmpS rfl rfl rfl (fun h22 => ?_) (fun h22 => ?_))
   ·
    dsimp only [cmpP] at h22
    refine O_nil (T_kp [0, 2, 3, 4, 5, 22] rfl ?_)
    have hs := hs.f4
    have hs := hs.f4
    have hs := hs.f4
    have hsW := hs.drop.drop.drop
    refine T_condT rfl (T_seq (T_drawS [0, 1, 2, 3, 4, 5, 6] hsW (by kernel_rfl) ?_))
    replace hs := hs.drew
    replace hsW := hsW.drew
    refine A_take 0 rfl (by kernel_rfl) rfl hsW (Y_move rfl ?_)
    refine A_take 1 rfl (by kernel_rfl) rfl hsW (Y_nil rfl ?_)
    refine A_take 2 rfl (by kernel_rfl) rfl hsW (Y_fieldAddr FO66_1 rfl (m := 1) rfl ?_)
    refine A_take 3 rfl (by kernel_rfl) rfl hsW (Y_ld 1 Tryz.isAgg3 rfl rfl rfl ?_)
    have hle := hs.le
    refine A_onlyN 4 rfl (by kernel_rfl) rfl (S_st hs Tryz.sizeOf22 rfl rfl rfl (by simp) (cs' := [_]) rfl fun _ hs => ?_)
    have hs := hs.f2
    have hs := hs.f2
    have hs := hs.f2
    have hsW := hs.drop.drop.drop
    refine A_moreS hsW hle (Ghost.le.refl _) (List.Sublist.refl _) ?_
    have hs := hs.f1
    have hle := hs.le
    refine A_onlyN 5 rfl (by kernel_rfl) rfl (S_st hs Tryz.sizeOf3 rfl rfl rfl (by simp) (cs' := [_]) rfl fun _ hs => ?_)
    have hs := hs.f2
    have hs := hs.f1
    have hs := hs.f2
    have hsW := hs.drop.drop.drop
    refine A_moreS hsW hle (Ghost.le.refl _) (List.Sublist.refl _) ?_
    have hs := hs.f2
    have hle := hs.le
    refine A_onlyN 6 rfl (by kernel_rfl) rfl (S_st hs Tryz.sizeOf30 rfl rfl rfl (by simp) (cs' := [_]) rfl fun _ hs => ?_)
    have hs := hs.f2
    have hs := hs.f2
    have hsW := hs.drop.drop.drop
    refine A_moreS hsW hle (Ghost.le.refl _) (List.Sublist.refl _) ?_
    refine A_done (by kernel_rfl) (T_kp [2, 3, 4] rfl ?_)
    refine T_ret ?_
    have hs := hs.f2
    have hs := hs.f2
    have hs := hs.f2
    have hr1 : parseP s = .error (2, q) := by rw [hpr, go_400 (by omega) hqf (by omega)]; rfl
    exact parse_ret rfl rfl rfl rfl (hs.weak hs.le (Ghost.le.refl _) (List.sublist_append_left [_, _, _] _)) (by rw [hr1]; exact ⟨LstR.nil, rfl, rfl⟩)
   ·
    dsimp only [cmpP] at h22
    refine O_nil (T_kp [0, 2, 3, 4, 5, 22] rfl ?_)
    refine T_condF rfl (T_skip ?_)
    refine T_drawB (by kernel_rfl) ?_
    replace hs := hs.drew
    refine B_two 0 1 rfl rfl (by kernel_rfl) rfl rfl ?_ ?_
    ·
     refine S_y hs rfl (Y_ld 2 Tryz.isAgg22 rfl rfl rfl ?_)
     refine B_one 1 rfl (by kernel_rfl) rfl (S_y hs rfl (Y_move rfl ?_))
     have hs := hs.f4
     have hs := hs.f4
     have hs := hs.f4
     have hs := hs.f3
     have hs := hs.f4
     refine B_one 2 rfl (by kernel_rfl) rfl (S_callX (H1 := [_]) hs rfl Tryz.func26 rfl (by kernel_rfl) (event_ok (q := q) (by omega) (by omega)) (fun v G' w' hX hG hs => parse_pan rfl rfl rfl rfl hs.drop (let ⟨e, h1, h2⟩ := hX; ⟨e, by rw [hpr, go_err (by omega) hqf (by omega) h1]; rfl, h2⟩)) fun v1 G' H' _ hR hG29 hs => ?_)
     obtain ⟨e, q1, vb, hev, hq1, rfl, hvb, rfl⟩ := hR
     replace hs : St _ _ [_, _, _, _, _] _ := hs
     replace hec := hec.mono hG29
     refine B_one 3 rfl (by kernel_rfl) rfl (S_lit hs Tryz.underlying22 Tryz.sizeOf36 Tryz.zeroValue36 rfl rfl (by decide) (by decide) rfl (cs := [_, _, _, _]) rfl rfl fun v2 _ hs _ => ?_)
     obtain ⟨_, hG30, hl30, hs⟩ := hs.fixRow noM
     replace hec := hec.mono hG30
     replace hvb := hvb.mono hG30
     have hs := hs.f1
     refine B_one 4 rfl (by kernel_rfl) rfl (S_append hs Tryz.underlying22 TI36 rfl (by decide) rfl rfl (hl30) (one4 hvb) (by omega) (by omega) fun v3 _ hs => ?_)
     have hs := hs.f2
     refine B_oneN 5 rfl (by kernel_rfl) rfl (S_st hs Tryz.sizeOf22 rfl rfl (hs.rowOne 1 rfl) (by simp) (cs' := [_]) rfl fun _ hs => ?_)
     have hs := hs.f4
     have hs := hs.f4
     have hs := hs.f2
     have hs := hs.f4
     have hs := hs.f4
     obtain ⟨f1, rfl⟩ : ∃ k, m = k + 1 := ⟨m - 1, by omega⟩
     have hlp := (event_back hev).2.2.1
     have hpos := line_pos e
     refine B_done (by kernel_rfl) ⟨_, ?_, [(0, _), (2, _), (3, _), (4, _), (5, _)], ⟨rfl, rfl, rfl, rfl, rfl, trivial⟩, ⟨f1, l ++ [e], _, q1, _, _, hpr.trans ((go_ok (f := f1) (n := l.length) l (by omega) (by omega) hev).trans (by rw [List.length_append]; rfl)), hec.snoc hvb, by omega, by omega, by rw [List.length_append, List.length_singleton]; omega, rfl, rfl, by rw [flat_snoc, List.length_append]; exact hs⟩⟩
     omega
    ·
     refine S_y hs rfl (Y_move rfl ?_)
     refine B_two 0 2 rfl rfl (by kernel_rfl) rfl rfl ?_ ?_
     ·
      refine S_y hs rfl (Y_ld 2 Tryz.isAgg22 rfl rfl rfl ?_)
      have hs := hs.f4
      have hs := hs.f4
      have hs := hs.f4
      have hs := hs.f3
      have hs := hs.f4
      refine B_one 2 rfl (by kernel_rfl) rfl (S_callX (H1 := [_]) hs rfl Tryz.func26 rfl (by kernel_rfl) (event_ok (q := q) (by omega) (by omega)) (fun v G' w' hX hG hs => parse_pan rfl rfl rfl rfl hs.drop (let ⟨e, h1, h2⟩ := hX; ⟨e, by rw [hpr, go_err (by omega) hqf (by omega) h1]; rfl, h2⟩)) fun v4 G' H' _ hR hG29 hs => ?_)
      obtain ⟨e, q1, vb, hev, hq1, rfl, hvb, rfl⟩ := hR
      replace hs : St _ _ [_, _, _, _, _] _ := hs
      replace hec := hec.mono hG29
      refine B_one 3 rfl (by kernel_rfl) rfl (S_lit hs Tryz.underlying22 Tryz.sizeOf36 Tryz.zeroValue36 rfl rfl (by decide) (by decide) rfl (cs := [_, _, _, _]) rfl rfl fun v5 _ hs _ => ?_)
      obtain ⟨_, hG30, hl30, hs⟩ := hs.fixRow noM
      replace hec := hec.mono hG30
      replace hvb := hvb.mono hG30
      have hs := hs.f1
      refine B_one 4 rfl (by kernel_rfl) rfl (S_append hs Tryz.underlying22 TI36 rfl (by decide) rfl rfl (hl30) (one4 hvb) (by omega) (by omega) fun v6 _ hs => ?_)
      have hs := hs.f2
      refine B_oneN 5 rfl (by kernel_rfl) rfl (S_st hs Tryz.sizeOf22 rfl rfl (hs.rowOne 1 rfl) (by simp) (cs' := [_]) rfl fun _ hs => ?_)
      have hs := hs.f4
      have hs := hs.f4
      have hs := hs.f2
      have hs := hs.f4
      have hs := hs.f4
      obtain ⟨f1, rfl⟩ : ∃ k, m = k + 1 := ⟨m - 1, by omega⟩
      have hlp := (event_back hev).2.2.1
      have hpos := line_pos e
      refine B_done (by kernel_rfl) ⟨_, ?_, [(0, _), (2, _), (3, _), (4, _), (5, _)], ⟨rfl, rfl, rfl, rfl, rfl, trivial⟩, ⟨f1, l ++ [e], _, q1, _, _, hpr.trans ((go_ok (f := f1) (n := l.length) l (by omega) (by omega) hev).trans (by rw [List.length_append]; rfl)), hec.snoc hvb, by omega, by omega, by rw [List.length_append, List.length_singleton]; omega, rfl, rfl, by rw [flat_snoc, List.length_append]; exact hs⟩⟩
      omega
     ·
      have hs := hs.f4
      have hs := hs.f4
      have hs := hs.f4
      have hs := hs.f3
      have hs := hs.f4
      refine S_callX (H1 := [_]) hs rfl Tryz.func26 rfl (by kernel_rfl) (event_ok (q := q) (by omega) (by omega)) (fun v G' w' hX hG hs => parse_pan rfl rfl rfl rfl hs.drop (let ⟨e, h1, h2⟩ := hX; ⟨e, by rw [hpr, go_err (by omega) hqf (by omega) h1]; rfl, h2⟩)) fun v7 G' H' _ hR hG29 hs => ?_
      obtain ⟨e, q1, vb, hev, hq1, rfl, hvb, rfl⟩ := hR
      replace hs : St _ _ [_, _, _, _, _] _ := hs
      replace hec := hec.mono hG29
      refine B_two 0 3 rfl rfl (by kernel_rfl) rfl rfl ?_ ?_
      ·
       refine S_y hs rfl (Y_ld 2 Tryz.isAgg22 rfl rfl rfl ?_)
       refine B_one 3 rfl (by kernel_rfl) rfl (S_lit hs Tryz.underlying22 Tryz.sizeOf36 Tryz.zeroValue36 rfl rfl (by decide) (by decide) rfl (cs := [_, _, _, _]) rfl rfl fun v8 _ hs _ => ?_)
       obtain ⟨_, hG30, hl30, hs⟩ := hs.fixRow noM
       replace hec := hec.mono hG30
       replace hvb := hvb.mono hG30
       have hs := hs.f1
       refine B_one 4 rfl (by kernel_rfl) rfl (S_append hs Tryz.underlying22 TI36 rfl (by decide) rfl rfl (hl30) (one4 hvb) (by omega) (by omega) fun v9 _ hs => ?_)
       have hs := hs.f2
       refine B_oneN 5 rfl (by kernel_rfl) rfl (S_st hs Tryz.sizeOf22 rfl rfl (hs.rowOne 1 rfl) (by simp) (cs' := [_]) rfl fun _ hs => ?_)
       have hs := hs.f4
       have hs := hs.f4
       have hs := hs.f2
       have hs := hs.f4
       have hs := hs.f4
       obtain ⟨f1, rfl⟩ : ∃ k, m = k + 1 := ⟨m - 1, by omega⟩
       have hlp := (event_back hev).2.2.1
       have hpos := line_pos e
       refine B_done (by kernel_rfl) ⟨_, ?_, [(0, _), (2, _), (3, _), (4, _), (5, _)], ⟨rfl, rfl, rfl, rfl, rfl, trivial⟩, ⟨f1, l ++ [e], _, q1, _, _, hpr.trans ((go_ok (f := f1) (n := l.length) l (by omega) (by omega) hev).trans (by rw [List.length_append]; rfl)), hec.snoc hvb, by omega, by omega, by rw [List.length_append, List.length_singleton]; omega, rfl, rfl, by rw [flat_snoc, List.length_append]; exact hs⟩⟩
       omega
      ·
       refine S_lit hs Tryz.underlying22 Tryz.sizeOf36 Tryz.zeroValue36 rfl rfl (by decide) (by decide) rfl (cs := [_, _, _, _]) rfl rfl fun v10 _ hs _ => ?_
       obtain ⟨_, hG30, hl30, hs⟩ := hs.fixRow noM
       replace hec := hec.mono hG30
       replace hvb := hvb.mono hG30
       refine B_one 0 rfl (by kernel_rfl) rfl (S_y hs rfl (Y_ld 2 Tryz.isAgg22 rfl rfl rfl ?_))
       have hs := hs.f1
       refine B_one 4 rfl (by kernel_rfl) rfl (S_append hs Tryz.underlying22 TI36 rfl (by decide) rfl rfl (hl30) (one4 hvb) (by omega) (by omega) fun v11 _ hs => ?_)
       have hs := hs.f2
       refine B_oneN 5 rfl (by kernel_rfl) rfl (S_st hs Tryz.sizeOf22 rfl rfl (hs.rowOne 1 rfl) (by simp) (cs' := [_]) rfl fun _ hs => ?_)
       have hs := hs.f4
       have hs := hs.f4
       have hs := hs.f2
       have hs := hs.f4
       have hs := hs.f4
       obtain ⟨f1, rfl⟩ : ∃ k, m = k + 1 := ⟨m - 1, by omega⟩
       have hlp := (event_back hev).2.2.1
       have hpos := line_pos e
       refine B_done (by kernel_rfl) ⟨_, ?_, [(0, _), (2, _), (3, _), (4, _), (5, _)], ⟨rfl, rfl, rfl, rfl, rfl, trivial⟩, ⟨f1, l ++ [e], _, q1, _, _, hpr.trans ((go_ok (f := f1) (n := l.length) l (by omega) (by omega) hev).trans (by rw [List.length_append]; rfl)), hec.snoc hvb, by omega, by omega, by rw [List.length_append, List.length_singleton]; omega, rfl, rfl, by rw [flat_snoc, List.length_append]; exact hs⟩⟩
       omega
  ·
   dsimp only [cmpP] at h19
   refine O_nil (T_kp [0, 2, 3, 4, 5, 19] rfl ?_)
   refine T_condF rfl (T_exit ?_)
   refine T_seq (T_region rfl ?_)
   refine O_y hs (Y_ld 2 Tryz.isAgg22 rfl rfl rfl ?_)
   have hs := hs.f2
   refine O_n (S_st hs Tryz.sizeOf22 rfl rfl (hs.rowOne 1 rfl) (by simp) (cs' := [_]) rfl fun _ hs => ?_)
   have hs := hs.f3
   refine O_n (S_st hs Tryz.sizeOf3 rfl rfl rfl (by simp) (cs' := [_]) rfl fun _ hs => ?_)
   have hs := hs.f4
   refine O_n (S_st hs Tryz.sizeOf30 rfl rfl rfl (by simp) (cs' := [_]) rfl fun _ hs => ?_)
   refine O_nil (T_kp [2, 3, 4] rfl ?_)
   refine T_ret ?_
   have hs := hs.f1
   have hs := hs.f2
   have hs := hs.f3
   have hr1 : parseP s = .ok l := by rw [hpr, go_end (by omega)]; simp [catE]
   obtain ⟨G2, hG2, hf, hs⟩ := hs.fixRow noM
   exact parse_ret rfl rfl rfl rfl (hs.weak hs.le (Ghost.le.refl _) (List.sublist_append_left [_, _, _] _)) (by rw [hr1]; exact ⟨evs_of hf rfl rfl (hec.mono hG2), rfl, rfl⟩)

end Go.Proofs.YtcnljflihhggiaaGreatDoor
