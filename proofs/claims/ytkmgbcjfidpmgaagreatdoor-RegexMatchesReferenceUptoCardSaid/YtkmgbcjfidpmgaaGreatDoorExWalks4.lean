import Derived.Test.YtkmgbcjfidpmgaaGreatDoorExWalks3
import Derived.Test.YtkmgbcjfidpmgaaGreatDoorProg
import Derived.Test.YtkmgbcjfidpmgaaGreatDoorSame
import Derived.Test.YtkmgbcjfidpmgaaGreatDoorExThin
import Derived.Test.YtkmgbcjfidpmgaaGreatDoorShelf
namespace Go.Proofs.YtkmgbcjfidpmgaaGreatDoor
open Go Go.Ex Go.RowKit
theorem FO90_0 : fieldOff Tryz.prog 90 0 = some 0 := by kernel_rfl
theorem FO90_1 : fieldOff Tryz.prog 90 1 = some 1 := by kernel_rfl
theorem TI5 : TI Tryz.prog 5 (.int .u8 0) 1 1 := TI.of (by kernel_rfl)

set_option maxHeartbeats 400000 in
set_option maxRecDepth 10000 in
theorem tz_ok {G : Ghost} {x : Nat} (hT : Tab G) :
  FnOk Tryz.prog 94 [u64V x] G [] fun r _ H' => H' = [] ∧ r = .int .i64 ((tzF x : Nat) : Int) := by
 refine FnOk.of_T [(0, _)] Tryz.func94 rfl Tryz.ntmps94 (by simp) rfl fun w0 hs => ?_
 have hT0 := hT
 refine T_seq (T_region rfl ?_)
 refine O_a rfl ?_
 refine O_nil (T_kp [0] rfl ?_)
 refine T_seq (T_seq (T_region rfl ?_))
 refine O_m rfl ?_
 refine O_y hs (Y_cmpS rfl rfl rfl (fun h4 => ?_) (fun h4 => ?_))
 ·
  dsimp only [cmpP] at h4
  refine O_nil (T_kp [0, 4] rfl ?_)
  refine T_condT rfl (T_seq (T_region rfl ?_))
  refine O_a rfl ?_
  refine O_nil (T_kp [2] rfl ?_)
  refine T_ret ?_
  refine Rt_fin (vs := [_]) Tryz.results94 rfl ⟨rfl, trivial⟩ ?_
  try dsimp only [tup]
  exact ⟨_, [], hs.done, rfl, congrArg (Value.int .i64) (by unfold tzF; rw [if_pos (by omega)]; rfl)⟩
 ·
  dsimp only [cmpP] at h4
  refine O_nil (T_kp [0, 4] rfl ?_)
  refine T_condF rfl (T_skip ?_)
  refine T_seq (T_region rfl ?_)
  refine O_m rfl ?_
  refine O_m rfl ?_
  refine O_y hs (Y_neg64 rfl ?_)
  refine O_y hs (Y_and64 rfl rfl ?_)
  refine O_y hs (Y_mul64 (b := 285870213051353865) rfl rfl ?_)
  refine O_y hs (Y_shr64 58 (by decide) rfl rfl ?_)
  refine O_y hs (Y_idxArr' (tzI x) Tryz.underlying128 Tryz.sizeOf5 rfl rfl rfl (tzI_lt x) ?_)
  refine O_y hs (Y_ldG Tryz.isAgg5 rfl (hT _ (tzI_lt x)) ?_)
  refine O_y hs (Y_conv Tryz.underlying5 Tryz.underlying3 (c := ((tab64.getD (tzI x) 0 : Nat) : Int)) rfl (wrap64_eq (by have := tab_le (tzI x); omega)) ?_)
  refine O_a rfl ?_
  refine O_nil (T_kp [2] rfl ?_)
  refine T_ret ?_
  refine Rt_fin (vs := [_]) Tryz.results94 rfl ⟨rfl, trivial⟩ ?_
  try dsimp only [tup]
  exact ⟨_, [], hs.done, rfl, congrArg (Value.int .i64) (by unfold tzF; rw [if_neg (by omega)])⟩

set_option maxHeartbeats 400000 in
set_option maxRecDepth 10000 in
theorem memb_ok {G : Ghost} {c : List Nat} (hc : c.length = 4) :
  FnOk Tryz.prog 76 [ClsV c] G [] fun r G' H' => H' = [] ∧ ∃ b, r = .func (.func 93) #[] #[.pointer (some ⟨b, 0, none⟩)] ∧ ClsAt G' b c := by
 refine FnOk.of_T [(0, _)] Tryz.func76 rfl Tryz.ntmps76 (by simp) rfl fun w0 hs => ?_
 refine T_seq (T_region rfl ?_)
 refine O_s (S_box hs rfl (cs := (List.map u64V c)) rfl fun b1 _ hs => ?_)
 refine O_a rfl ?_
 refine O_nil (T_kp [1] rfl ?_)
 refine T_seq (T_region rfl ?_)
 refine O_y hs (Y_makeFunc (vs := [_]) rfl ?_)
 refine O_a rfl ?_
 refine O_nil (T_kp [2] rfl ?_)
 refine T_ret ?_
 refine Rt_fin (vs := [_]) Tryz.results76 rfl ⟨rfl, trivial⟩ ?_
 try dsimp only [tup]
 obtain ⟨G', hG, hf, hs3⟩ := hs.fixBlk (fun k _ => noMb k)
 exact ⟨G', [], hs3, rfl, _, rfl, hf⟩

set_option maxHeartbeats 400000 in
set_option maxRecDepth 10000 in
theorem mem1_ok {lp b : Nat} {G : Ghost} {c : List Nat} {H0 : List Res} {J : Nat → Ghost → List Res → Prop} (hcb : ClsAt G b c) (hc : c.length = 4) (hw : ∀ w ∈ c, w < W64) (hT : Tab G) (hJm : ∀ n G1 G2 H, Ghost.le G1 G2 → J n G1 H → J n G2 H)
  (hY : ∀ n a G' H', (bytesF c)[n]? = some a → G.le G' → J n G' H' → YieldOk Tryz.prog lp [.int .u8 (a.toNat : Int)] G' H' fun r G'' H'' => r = .bool true ∧ J (n + 1) G'' H'') (hJ0 : J 0 G H0) :
  FnOk Tryz.prog 93 [.func (.yield lp) #[] #[], .pointer (some ⟨b, 0, none⟩)] G H0 fun _ G' H' => J (bytesF c).length G' H' := by
 refine FnOk.of_T [(0, _), (1, _)] Tryz.func93 rfl Tryz.ntmps93 (by simp) rfl fun w0 hs => ?_
 have hcb0 := hcb
 have hT0 := hT
 refine T_seq (T_region rfl ?_)
 refine O_y hs (Y_ldAG (vs := List.map u64V c) Tryz.isAgg40 Tryz.sizeOf40 rfl hcb.whole (by rw [List.length_map, hc]) ?_)
 refine O_m rfl ?_
 refine O_nil (T_kp [0, 5, 6] rfl ?_)
 refine T_block (T_loop (fun m E w => ∃ (k n : Nat) (G' : Ghost) (H' : List Res), k ≤ 4 ∧ (bytesF c).drop n = bytesG k (c.drop k) ∧ n ≤ (bytesF c).length ∧ J n G' H' ∧ m = 4 - k ∧ E = ⟨[], [(0, .func (.yield lp) #[] #[]), (5, (ClsV c)), (6, .int .i64 (k : Int))]⟩ ∧ St ⟨w0, G, feet H0⟩ G' H' w) (L := [(0, _), (5, _), (6, _)]) ⟨rfl, rfl, rfl, trivial⟩ (⟨0, 0, _, _, by omega, rfl, by omega, hJ0, rfl, rfl, hs⟩) fun m E w hI => ?_)
 obtain ⟨k, n, G', H', hk, hd, hnl, hJ, rfl, rfl, hs⟩ := hI
 have hcb := hcb0.mono hs.le
 have hT := hT0.mono hs.le
 refine T_seq (T_region rfl ?_)
 refine O_y hs (Y_cmpS rfl rfl rfl (fun h7 => ?_) (fun h7 => ?_))
 ·
  dsimp only [cmpP] at h7
  refine O_nil (T_kp [0, 5, 6, 7] rfl ?_)
  refine T_seq (T_condT rfl (T_skip ?_))
  refine T_seq (T_block (T_seq (T_region rfl ?_)))
  refine O_m rfl ?_
  refine O_y hs (Y_indexV (vs := List.map u64V c) (v := u64V c[k]) k Tryz.underlying40 Tryz.isAgg38 Tryz.sizeOf38 rfl rfl rfl (by omega) (map_at c k (by omega)) ?_)
  refine O_a rfl ?_
  refine O_a rfl ?_
  refine O_nil (T_kp [0, 3, 4, 5, 6] rfl ?_)
  have hwk := hw c[k] (List.getElem_mem (show k < c.length by omega))
  rw [List.drop_eq_getElem_cons (show k < c.length by omega), bytesG] at hd
  refine T_block (T_loop (fun m E w => ∃ (n f wd : Nat) (G' : Ghost) (H' : List Res), (bytesF c).drop n = memF k f wd ++ bytesG (k + 1) (c.drop (k + 1)) ∧ wd ≤ f ∧ wd < W64 ∧ n ≤ (bytesF c).length ∧ J n G' H' ∧ m = wd ∧ E = ⟨[], [(0, .func (.yield lp) #[] #[]), (3, .int .i64 (k : Int)), (4, u64V wd), (5, (ClsV c)), (6, .int .i64 (k : Int))]⟩ ∧ St ⟨w0, G, feet H0⟩ G' H' w) (L := [(0, _), (3, _), (4, _), (5, _), (6, _)]) ⟨rfl, rfl, rfl, rfl, rfl, trivial⟩ (⟨n, c[k], c[k], _, _, hd, Nat.le_refl _, hwk, hnl, hJ, rfl, rfl, hs⟩) fun m E w hI => ?_)
  obtain ⟨n, f, wd, G', H', hd, hwf, hww, hnl, hJ, hmw, rfl, hs⟩ := hI
  have hcb := hcb0.mono hs.le
  have hT := hT0.mono hs.le
  refine T_seq (T_seq (T_region rfl ?_))
  refine O_m rfl ?_
  refine O_y hs (Y_cmpS rfl rfl rfl (fun h11 => ?_) (fun h11 => ?_))
  ·
   dsimp only [cmpP] at h11
   obtain ⟨f, rfl⟩ : ∃ q, f = q + 1 := ⟨f - 1, by omega⟩
   rw [memF, if_neg (by omega), List.cons_append] at hd
   obtain ⟨hn, hst, hd⟩ := mem_step hd
   replace hst : (bytesF c)[n]? = some (UInt8.ofNat (64 * k + tzF wd)) := by rw [List.getElem?_eq_getElem hn, hst]
   have htz := tzF_le wd
   refine O_nil (T_kp [0, 3, 4, 5, 6, 11] rfl ?_)
   refine T_condT rfl (T_skip ?_)
   refine T_block (T_seq (T_seq (T_region rfl ?_)))
   refine O_m rfl ?_
   refine O_m rfl ?_
   refine O_y hs (Y_mul (c := ((64 * k : Nat) : Int)) rfl rfl (by omega) (by omega) ?_)
   refine O_m rfl ?_
   refine O_s (S_call (H1 := []) (H := H') hs rfl Tryz.func94 rfl (by kernel_rfl) (tz_ok hT) fun v1 G' H' _ hR hG16 hs => ?_)
   obtain ⟨rfl, rfl⟩ := hR
   replace hs : St _ _ H' _ := hs
   replace hcb := hcb.mono hG16
   replace hT := hT.mono hG16
   replace hJ := hJm _ _ _ _ hG16 hJ
   refine O_y hs (Y_add (c := ((64 * k + tzF wd : Nat) : Int)) rfl rfl (by omega) (by omega) ?_)
   refine O_y hs (Y_conv Tryz.underlying3 Tryz.underlying5 (c := ((UInt8.ofNat (64 * k + tzF wd)).toNat : Int)) rfl (u8wrap _) ?_)
   refine O_s (S_yield (H1 := H') (H := []) (by rw [List.append_nil]; exact hs) rfl rfl (hY n _ _ _ hst hs.le hJ) fun v G'' H'' w' hR hG19 hs => ?_)
   obtain ⟨rfl, hJ⟩ := hR
   rw [List.append_nil] at hs
   replace hcb := hcb.mono hG19
   replace hT := hT.mono hG19
   refine O_y hs (Y_not rfl ?_)
   refine O_nil (T_kp [0, 3, 4, 5, 6, 20] rfl ?_)
   refine T_condF rfl (T_skip ?_)
   refine T_region rfl ?_
   refine O_m rfl ?_
   refine O_m rfl ?_
   refine O_y hs (Y_sub64 (b := 1) rfl rfl ?_)
   refine O_y hs (Y_and64 rfl rfl ?_)
   refine O_a rfl ?_
   have h1 := and64_le wd (sub64 wd 1)
   rw [sub_one (by omega) hww] at h1
   refine O_nil ⟨_, ?_, [(0, _), (3, _), (4, _), (5, _), (6, _)], ⟨rfl, rfl, rfl, rfl, rfl, trivial⟩, ⟨n + 1, f, _, _, _, hd, by rw [sub_one (by omega) hww]; omega, and64_lt _ _, by omega, hJ, rfl, rfl, hs⟩⟩
   rw [sub_one (by omega) hww]; omega
  ·
   dsimp only [cmpP] at h11
   refine O_nil (T_kp [0, 3, 4, 5, 6, 11] rfl ?_)
   refine T_condF rfl (T_exit ?_)
   refine T_region rfl ?_
   refine O_y hs (Y_add (c := ((k + 1 : Nat) : Int)) rfl rfl (by omega) (by omega) ?_)
   refine O_m rfl ?_
   obtain rfl : wd = 0 := by omega
   rw [memF_zero, List.nil_append] at hd
   refine O_nil ⟨_, ?_, [(0, _), (5, _), (6, _)], ⟨rfl, rfl, rfl, trivial⟩, ⟨k + 1, n, _, _, by omega, hd, hnl, hJ, rfl, rfl, hs⟩⟩
   omega
 ·
  dsimp only [cmpP] at h7
  refine O_nil (T_kp [0, 5, 6, 7] rfl ?_)
  refine T_seq (T_condF rfl (T_exit ?_))
  try dsimp only [Ex.sq, Ex.lp, Ex.bk]
  try rw [show Nat.beq _ _ = true from Nat.beq_refl _, cond_true]
  refine Rt_finN (vs := []) Tryz.results93 rfl trivial ?_
  try dsimp only [tup]
  obtain rfl : k = 4 := by omega
  rw [List.drop_eq_nil_of_le (by omega : c.length ≤ 4)] at hd
  have hn := List.drop_eq_nil_iff.1 hd
  obtain rfl : n = (bytesF c).length := by omega
  exact ⟨_, _, hs, hJ⟩

set_option maxHeartbeats 400000 in
set_option maxRecDepth 10000 in
theorem aseq_ok {b : Nat} {G : Ghost} {c : List Nat} (hcb : ClsAt G b c) (hc : c.length = 4) (hw : ∀ w ∈ c, w < W64) (hT : Tab G) :
  FnOk Tryz.prog 92 [.slice none 0 0, .func (.func 93) #[] #[.pointer (some ⟨b, 0, none⟩)]] G [] fun r G' H' => H' = [] ∧ Bytes G' r (bytesF c) := by
 have hbl := bytesF_len hc hw
 refine FnOk.of_TM [(0, _), (1, _)] Tryz.func92 rfl Tryz.ntmps92 (by simp) rfl fun w0 hs => ?_
 refine T_seq (T_region rfl ?_)
 refine O_s (S_box hs rfl (cs := [_]) rfl fun b2 _ hs => ?_)
 refine O_a rfl ?_
 refine O_nil (T_kp [1, 2] rfl ?_)
 refine T_seq (T_seq (T_region rfl ?_))
 refine O_m rfl ?_
 refine O_nil (T_kp [2, 6] rfl ?_)
 have hs := hs.nilRow 5 1
 have hs := hs.f1
 have hs := hs.f1
 refine T_block (T_rangeFunc (H1 := [_, _]) (H := []) (R := fun G' H2 => ∃ (v : Value), H2 = [.row 5 1 v (bytesF c).length (((bytesF c).take (bytesF c).length).map byteV), .blk b2 30 [v]]) hs rfl Tryz.func93 rfl (by kernel_rfl) ?hit ?done)
 case hit =>
  intro lp D rec hp ha hbd hst hpe hAg
  obtain ⟨state, pending, fn', tmps, params, assign, body, defers⟩ := rec
  dsimp only at hp ha hbd hst hpe hAg
  subst hst hpe
  refine FnOk.mono (mem1_ok (lp := lp) (J := fun n G' H' => n ≤ (bytesF c).length ∧ ∃ (v : Value), H' = [.obj lp (.loop { state := .ready, pending := none, fn := fn', tmps := tmps, params := params, assign := assign, body := body, defers := defers }), .obj D (.deferred (some [])), .row 5 1 v n (((bytesF c).take n).map byteV), .blk b2 30 [v]]) hcb hc hw hT (fun _ _ _ _ _ h => h) ?round ⟨by omega, _, rfl⟩) ?fin
  case fin =>
   rintro r G' H' _ ⟨_, v, rfl⟩
   exact ⟨_, rfl, v, rfl⟩
  rintro n a G' H' hst hle ⟨hnl, v7, rfl⟩
  obtain ⟨hn, ha'⟩ := List.getElem?_eq_some_iff.1 hst
  subst hp ha hbd
  refine YieldOk.of_T hAg rfl rfl (by simp) rfl fun w1 hs => ?_
  refine T_region rfl ?_
  refine O_a rfl ?_
  refine O_nil ⟨hs, fun w2 hs => ?_⟩
  refine T_block (T_region rfl ?_)
  refine O_y hs (Y_ld 3 Tryz.isAgg30 rfl rfl rfl ?_)
  refine O_m rfl ?_
  refine O_s (S_lit hs Tryz.underlying30 Tryz.sizeOf5 Tryz.zeroValue5 rfl rfl (by decide) (by decide) rfl (cs := [_]) rfl rfl fun v1 _ hs _ => ?_)
  obtain ⟨_, hG10, hl10, hs⟩ := hs.fixRow (noMh hs ⟨fun _ h => h, fun _ h => h, fun _ h => h, fun _ h => h, trivial⟩)
  have hs := hs.f2
  refine O_s (S_append hs Tryz.underlying30 TI5 rfl (by decide) rfl rfl (hl10) (one1 rfl) (by omega) (by omega) fun v2 _ hs => ?_)
  have hs := hs.f3
  refine O_n (S_st hs Tryz.sizeOf30 rfl rfl (hs.rowOne 1 rfl) (by simp) (cs' := [_]) rfl fun _ hs => ?_)
  have hs := hs.f1
  have hs := hs.f3
  have hs := hs.f3
  refine O_nil ⟨_, _, hs, rfl, hn, v2, ?_⟩
  rw [take_map_succ _ n hn, ha']
 case done =>
  rintro lp D o' G' H2 w' ⟨v7, rfl⟩ hle hs
  refine T_seq (T_region rfl ?_)
  refine O_y hs (Y_ld 3 Tryz.isAgg30 rfl rfl rfl ?_)
  refine O_a rfl ?_
  refine O_nil (T_kp [4] rfl ?_)
  refine T_ret ?_
  refine RtM_fin hs (vs := [_]) Tryz.results92 rfl (fun _ hs => ⟨⟨rfl, trivial⟩, ?_⟩)
  try dsimp only [tup]
  have hs := hs.f1
  obtain ⟨G', hG, hf, hs3⟩ := hs.fixRow noM
  exact ⟨G', [], hs3.done, rfl, Bytes.ofSl hf rfl (by rw [List.take_length])⟩

set_option maxHeartbeats 400000 in
set_option maxRecDepth 10000 in
theorem coll_ok {b : Nat} {G : Ghost} {c : List Nat} (hcb : ClsAt G b c) (hc : c.length = 4) (hw : ∀ w ∈ c, w < W64) (hT : Tab G) :
  FnOk Tryz.prog 75 [.func (.func 93) #[] #[.pointer (some ⟨b, 0, none⟩)]] G [] fun r G' H' => H' = [] ∧ Bytes G' r (bytesF c) := by
 refine FnOk.of_T [(0, _)] Tryz.func75 rfl Tryz.ntmps75 (by simp) rfl fun w0 hs => ?_
 have hcb0 := hcb
 have hT0 := hT
 refine T_seq (T_region rfl ?_)
 refine O_a rfl ?_
 refine O_nil (T_kp [0] rfl ?_)
 refine T_seq (T_region rfl ?_)
 refine O_m rfl ?_
 refine O_s (S_call (H1 := []) hs rfl Tryz.func92 rfl (by kernel_rfl) (aseq_ok hcb hc hw hT) fun v1 G' H' _ hR hG4 hs => ?_)
 obtain ⟨rfl, hb⟩ := hR
 replace hs : St _ _ [] _ := hs
 replace hcb := hcb.mono hG4
 replace hT := hT.mono hG4
 refine O_a rfl ?_
 refine O_nil (T_kp [2] rfl ?_)
 refine T_ret ?_
 refine Rt_fin (vs := [_]) Tryz.results75 rfl ⟨rfl, trivial⟩ ?_
 try dsimp only [tup]
 exact ⟨_, [], hs.done, rfl, hb⟩

set_option maxHeartbeats 400000 in
set_option maxRecDepth 10000 in
theorem bytes_ok {G : Ghost} {c : List Nat} (hc : c.length = 4) (hw : ∀ w ∈ c, w < W64) (hT : Tab G) :
  FnOk Tryz.prog 56 [ClsV c] G [] fun r G' H' => H' = [] ∧ Bytes G' r (bytesF c) := by
 refine FnOk.of_T [(0, _)] Tryz.func56 rfl Tryz.ntmps56 (by simp) rfl fun w0 hs => ?_
 have hT0 := hT
 refine T_seq (T_region rfl ?_)
 refine O_s (S_box hs rfl (cs := (List.map u64V c)) rfl fun b1 _ hs => ?_)
 refine O_a rfl ?_
 refine O_nil (T_kp [1] rfl ?_)
 refine T_seq (T_region rfl ?_)
 refine O_y hs (Y_ldW 0 Tryz.isAgg40 Tryz.sizeOf40 rfl rfl (by first | omega | (simp; omega) | simp) ?_)
 refine O_s (S_call (H1 := []) hs rfl Tryz.func76 rfl (by kernel_rfl) (memb_ok hc) fun v1 G' H' _ hR hG4 hs => ?_)
 obtain ⟨rfl, b, rfl, hcb⟩ := hR
 replace hs : St _ _ [_] _ := hs
 replace hT := hT.mono hG4
 refine O_s (S_call (H1 := []) hs rfl Tryz.func75 rfl (by kernel_rfl) (coll_ok hcb hc hw hT) fun v2 G' H' _ hR hG5 hs => ?_)
 obtain ⟨rfl, hb⟩ := hR
 replace hs : St _ _ [_] _ := hs
 replace hT := hT.mono hG5
 replace hcb := hcb.mono hG5
 refine O_a rfl ?_
 refine O_nil (T_kp [2] rfl ?_)
 refine T_ret ?_
 refine Rt_fin (vs := [_]) Tryz.results56 rfl ⟨rfl, trivial⟩ ?_
 try dsimp only [tup]
 exact ⟨_, [], hs.done, rfl, hb⟩

theorem infoBLD : Tryz.prog.info? 90 = some (Tryz.prog.info? 90).get! := by kernel_rfl


set_option maxHeartbeats 400000 in
set_option maxRecDepth 10000 in
theorem cchk_0 {G : Ghost} {p : Nat} {v : Value} :
  FnOk Tryz.prog 79 [.pointer (some ⟨p, 0, none⟩)] G [.blk p 90 [.pointer none, v]] fun r _ H' => H' = [.blk p 90 [.pointer (some ⟨p, 0, none⟩), v]] := by
 refine FnOk.of_T [(0, _)] Tryz.func79 rfl Tryz.ntmps79 (by simp) rfl fun w0 hs => ?_
 refine T_seq (T_region rfl ?_)
 refine O_m rfl ?_
 refine O_y hs (Y_nil rfl ?_)
 refine O_y hs (Y_fieldAddr FO90_0 rfl (m := 0) rfl ?_)
 refine O_y hs (Y_ld 0 Tryz.isAgg88 rfl rfl rfl ?_)
 refine O_y hs (Y_ptrNilT Tryz.underlying88 rfl ?_)
 refine O_nil (T_kp [0, 6] rfl ?_)
 refine T_condT rfl (T_region rfl ?_)
 refine O_m rfl ?_
 refine O_m rfl ?_
 refine O_y hs (Y_toUnsafe 0 rfl Tryz.underlying88 Tryz.underlying122 infoBLD (by decide) (by simp) rfl ?_)
 refine O_y hs (Y_noEscape Tryz.func97 rfl rfl rfl (by kernel_rfl) rfl ?_)
 refine O_y hs (Y_fromUnsafe 0 rfl Tryz.underlying122 Tryz.underlying88 infoBLD (by kernel_rfl) rfl ?_)
 refine O_y hs (Y_nil rfl ?_)
 refine O_y hs (Y_fieldAddr FO90_0 rfl (m := 0) rfl ?_)
 refine O_n (S_st hs Tryz.sizeOf88 rfl rfl rfl (by simp) (cs' := [_, _]) rfl fun _ hs => ?_)
 refine O_nil (Rt_finN (vs := []) Tryz.results79 rfl trivial ?_)
 try dsimp only [tup]
 exact ⟨_, _, hs, rfl⟩

set_option maxHeartbeats 400000 in
set_option maxRecDepth 10000 in
theorem cchk_1 {G : Ghost} {p : Nat} {v : Value} :
  FnOk Tryz.prog 79 [.pointer (some ⟨p, 0, none⟩)] G [.blk p 90 [.pointer (some ⟨p, 0, none⟩), v]] fun r _ H' => H' = [.blk p 90 [.pointer (some ⟨p, 0, none⟩), v]] := by
 refine FnOk.of_T [(0, _)] Tryz.func79 rfl Tryz.ntmps79 (by simp) rfl fun w0 hs => ?_
 refine T_seq (T_region rfl ?_)
 refine O_m rfl ?_
 refine O_y hs (Y_nil rfl ?_)
 refine O_y hs (Y_fieldAddr FO90_0 rfl (m := 0) rfl ?_)
 refine O_y hs (Y_ld 0 Tryz.isAgg88 rfl rfl rfl ?_)
 refine O_y hs (Y_ptrNilF Tryz.underlying88 rfl ?_)
 refine O_nil (T_kp [0, 6] rfl ?_)
 refine T_condF rfl (T_seq (T_region rfl ?_))
 refine O_m rfl ?_
 refine O_y hs (Y_nil rfl ?_)
 refine O_y hs (Y_fieldAddr FO90_0 rfl (m := 0) rfl ?_)
 refine O_y hs (Y_ld 0 Tryz.isAgg88 rfl rfl rfl ?_)
 refine O_m rfl ?_
 refine O_y hs (Y_ptrNeF Tryz.underlying88 infoBLD rfl rfl ?_)
 refine O_nil (T_kp [19] rfl ?_)
 refine T_condF rfl (T_skip ?_)
 try dsimp only [Ex.sq, Ex.lp, Ex.bk]
 try rw [show Nat.beq _ _ = true from Nat.beq_refl _, cond_true]
 refine Rt_finN (vs := []) Tryz.results79 rfl trivial ?_
 try dsimp only [tup]
 exact ⟨_, _, hs, rfl⟩

theorem cchk_ok {G : Ghost} {p : Nat} {q v : Value} (hq : q = .pointer none ∨ q = .pointer (some ⟨p, 0, none⟩)) :
    FnOk Tryz.prog 79 [.pointer (some ⟨p, 0, none⟩)] G [.blk p 90 [q, v]] fun r _ H' => H' = [.blk p 90 [.pointer (some ⟨p, 0, none⟩), v]] := by
  rcases hq with rfl | rfl
  · exact cchk_0
  · exact cchk_1


set_option maxHeartbeats 400000 in
set_option maxRecDepth 10000 in
theorem wby_ok {G : Ghost} {p : Nat} {q v : Value} {l : List UInt8} (hq : q = .pointer none ∨ q = .pointer (some ⟨p, 0, none⟩)) {c : UInt8} (hl : l.length ≤ 1000000) :
  FnOk Tryz.prog 58 [.pointer (some ⟨p, 0, none⟩), .int .u8 (c.toNat : Int)] G [.blk p 90 [q, v], .row 5 1 v l.length (l.map byteV)] fun r _ H' => ∃ v1, H' = [.blk p 90 [.pointer (some ⟨p, 0, none⟩), v1], .row 5 1 v1 (l ++ [c]).length ((l ++ [c]).map byteV)] ∧ r = .nilIface := by
 refine FnOk.of_T [(0, _), (1, _)] Tryz.func58 rfl Tryz.ntmps58 (by simp) rfl fun w0 hs => ?_
 refine T_seq (T_region rfl ?_)
 refine O_a rfl ?_
 refine O_nil (T_kp [0, 1] rfl ?_)
 refine T_seq (T_region rfl ?_)
 refine O_m rfl ?_
 refine O_s (S_call (H1 := [_]) hs rfl Tryz.func79 rfl (by kernel_rfl) (cchk_ok hq) fun v1 G' H' _ hR hG6 hs => ?_)
 obtain rfl := hR
 replace hs : St _ _ [_, _] _ := hs
 refine O_nil (T_kp [0, 1] rfl ?_)
 refine T_seq (T_region rfl ?_)
 refine O_m rfl ?_
 refine O_m rfl ?_
 refine O_y hs (Y_nil rfl ?_)
 refine O_y hs (Y_fieldAddr FO90_1 rfl (m := 1) rfl ?_)
 refine O_y hs (Y_ld 0 Tryz.isAgg30 rfl rfl rfl ?_)
 refine O_m rfl ?_
 refine O_s (S_lit hs Tryz.underlying30 Tryz.sizeOf5 Tryz.zeroValue5 rfl rfl (by decide) (by decide) rfl (cs := [_]) rfl rfl fun v2 _ hs _ => ?_)
 obtain ⟨_, hG13, hl13, hs⟩ := hs.fixRow (noM2 0 1 hs rfl rfl)
 have hs := hs.f1
 refine O_s (S_append hs Tryz.underlying30 TI5 rfl (by decide) rfl rfl (hl13) (one1 rfl) (by omega) (by omega) fun v3 _ hs => ?_)
 refine O_y hs (Y_nil rfl ?_)
 refine O_y hs (Y_fieldAddr FO90_1 rfl (m := 1) rfl ?_)
 have hs := hs.f1
 refine O_n (S_st hs Tryz.sizeOf30 rfl rfl (hs.rowOne 1 rfl) (by simp) (cs' := [_, _]) rfl fun _ hs => ?_)
 refine O_nil (T_kp [] rfl ?_)
 refine T_seq (T_region rfl ?_)
 refine O_a rfl ?_
 refine O_nil (T_kp [4] rfl ?_)
 refine T_ret ?_
 have hs := hs.f1
 have hs := hs.f1
 refine Rt_fin (vs := [_]) Tryz.results58 rfl ⟨rfl, trivial⟩ ?_
 try dsimp only [tup]
 exact ⟨_, _, hs.weak hs.le (Ghost.le.refl _) (List.sublist_append_left [_, _] _), v3, by rw [List.length_append, List.map_append]; rfl, rfl⟩

set_option maxHeartbeats 400000 in
set_option maxRecDepth 10000 in
theorem wst_ok {G : Ghost} {p : Nat} {q v : Value} {l : List UInt8} (hq : q = .pointer none ∨ q = .pointer (some ⟨p, 0, none⟩)) {s : List UInt8} (hl : l.length ≤ 1000000) (hls : s.length ≤ 1000000) :
  FnOk Tryz.prog 59 [.pointer (some ⟨p, 0, none⟩), .string ⟨s.toArray⟩] G [.blk p 90 [q, v], .row 5 1 v l.length (l.map byteV)] fun r _ H' => ∃ v1, H' = [.blk p 90 [.pointer (some ⟨p, 0, none⟩), v1], .row 5 1 v1 (l ++ s).length ((l ++ s).map byteV)] ∧ r = .tuple #[.int .i64 ((s.length : Nat) : Int), .nilIface] := by
 refine FnOk.of_T [(0, _), (1, _)] Tryz.func59 rfl Tryz.ntmps59 (by simp) rfl fun w0 hs => ?_
 refine T_seq (T_region rfl ?_)
 refine O_a rfl ?_
 refine O_a rfl ?_
 refine O_nil (T_kp [0, 1] rfl ?_)
 refine T_seq (T_region rfl ?_)
 refine O_m rfl ?_
 refine O_s (S_call (H1 := [_]) hs rfl Tryz.func79 rfl (by kernel_rfl) (cchk_ok hq) fun v1 G' H' _ hR hG7 hs => ?_)
 obtain rfl := hR
 replace hs : St _ _ [_, _] _ := hs
 refine O_nil (T_kp [0, 1] rfl ?_)
 refine T_seq (T_region rfl ?_)
 refine O_m rfl ?_
 refine O_m rfl ?_
 refine O_y hs (Y_nil rfl ?_)
 refine O_y hs (Y_fieldAddr FO90_1 rfl (m := 1) rfl ?_)
 refine O_y hs (Y_ld 0 Tryz.isAgg30 rfl rfl rfl ?_)
 refine O_m rfl ?_
 have hs := hs.f1
 refine O_s (S_appendStr hs Tryz.underlying30 Tryz.underlying9 TI5 rfl rfl (by omega) fun v2 _ hs => ?_)
 refine O_y hs (Y_nil rfl ?_)
 refine O_y hs (Y_fieldAddr FO90_1 rfl (m := 1) rfl ?_)
 have hs := hs.f1
 refine O_n (S_st hs Tryz.sizeOf30 rfl rfl (hs.rowOne 1 rfl) (by simp) (cs' := [_, _]) rfl fun _ hs => ?_)
 refine O_nil (T_kp [1] rfl ?_)
 refine T_seq (T_region rfl ?_)
 refine O_m rfl ?_
 refine O_y hs (Y_lenS Tryz.underlying9 rfl ?_)
 refine O_a rfl ?_
 refine O_a rfl ?_
 refine O_nil (T_kp [4, 5] rfl ?_)
 refine T_ret ?_
 have hs := hs.f1
 have hs := hs.f1
 refine Rt_fin (vs := [_, _]) Tryz.results59 rfl ⟨rfl, rfl, trivial⟩ ?_
 try dsimp only [tup]
 exact ⟨_, _, hs.weak hs.le (Ghost.le.refl _) (List.sublist_append_left [_, _] _), v2, by rw [List.length_append, List.map_append], by rw [bsz]⟩

set_option maxHeartbeats 400000 in
set_option maxRecDepth 10000 in
theorem bstr_ok {G : Ghost} {p : Nat} {q v : Value} {l : List UInt8} (h0 : l ≠ []) (hl : l.length ≤ 1000000000) :
  FnOk Tryz.prog 60 [.pointer (some ⟨p, 0, none⟩)] G [.blk p 90 [q, v], .row 5 1 v l.length (l.map byteV)] fun r _ H' => H' = [] ∧ r = .string ⟨l.toArray⟩ := by
 have hl0 : 0 < l.length := by rcases Nat.eq_zero_or_pos l.length with h | h; exact absurd (List.length_eq_zero_iff.1 h) h0; exact h
 suffices hh : ∀ w : World, St ⟨w, G, feet [.blk p 90 [q, v], .row 5 1 v l.length (l.map byteV)]⟩ G [.blk p 90 [q, v], .row 5 1 v l.length (l.map byteV)] w → Calls Tryz.prog 60 #[.pointer (some ⟨p, 0, none⟩)] w fun e w' => ∃ r G' H', e = .returned r ∧ St ⟨w, G, feet [.blk p 90 [q, v], .row 5 1 v l.length (l.map byteV)]⟩ G' H' w' ∧ H' = [] ∧ r = .string ⟨l.toArray⟩ from hh
 intro w hw
 obtain ⟨rb, cap, rfl, hcap⟩ := hw.rowForm 1 rfl hl0
 revert w
 suffices hh : FnOk Tryz.prog 60 [.pointer (some ⟨p, 0, none⟩)] G [.blk p 90 [q, .slice (some ⟨rb, 0, none⟩) l.length cap], .row 5 1 (.slice (some ⟨rb, 0, none⟩) l.length cap) l.length (l.map byteV)] fun r _ H' => H' = [] ∧ r = .string ⟨l.toArray⟩ from fun w hw => hh w hw
 refine FnOk.of_T [(0, _)] Tryz.func60 rfl Tryz.ntmps60 (by simp) rfl fun w0 hs => ?_
 refine T_seq (T_region rfl ?_)
 refine O_a rfl ?_
 refine O_nil (T_kp [0] rfl ?_)
 refine T_seq (T_drawS [0, 1, 2, 3, 4, 5, 6, 7, 8, 9] hs (by kernel_rfl) ?_)
 replace hs := hs.drew
 refine A_take 0 rfl (by kernel_rfl) rfl hs (Y_move rfl ?_)
 refine A_take 1 rfl (by kernel_rfl) rfl hs (Y_nil rfl ?_)
 refine A_take 2 rfl (by kernel_rfl) rfl hs (Y_fieldAddr FO90_1 rfl (m := 1) rfl ?_)
 refine A_take 3 rfl (by kernel_rfl) rfl hs (Y_ld 0 Tryz.isAgg30 rfl rfl rfl ?_)
 refine A_take 4 rfl (by kernel_rfl) rfl hs (Y_sliceData rfl (by omega) ?_)
 refine A_take 5 rfl (by kernel_rfl) rfl hs (Y_move rfl ?_)
 refine A_take 6 rfl (by kernel_rfl) rfl hs (Y_nil rfl ?_)
 refine A_take 7 rfl (by kernel_rfl) rfl hs (Y_fieldAddr FO90_1 rfl (m := 1) rfl ?_)
 refine A_take 8 rfl (by kernel_rfl) rfl hs (Y_ld 0 Tryz.isAgg30 rfl rfl rfl ?_)
 refine A_take 9 rfl (by kernel_rfl) rfl hs (Y_len Tryz.underlying30 rfl ?_)
 have hs := hs.f1
 refine A_tail 10 rfl (by kernel_rfl) (by kernel_rfl) rfl (S_unsafeString hs Tryz.underlying114 (by kernel_rfl) h0 (by omega) rfl rfl fun _ hs => ?_)
 refine A_tail 11 rfl (by kernel_rfl) (by kernel_rfl) rfl (S_y hs rfl (Y_assign rfl ?_))
 refine A_done (by kernel_rfl) (T_kp [2] rfl ?_)
 refine T_ret ?_
 refine Rt_fin (vs := [_]) Tryz.results60 rfl ⟨rfl, trivial⟩ ?_
 try dsimp only [tup]
 exact ⟨_, _, hs.done, rfl, rfl⟩

theorem dec_dig : ∀ i : Fin 100, Lib.decDigits i.val = digT i.val := by decide +kernel
theorem itoa_ok {G : Ghost} {n : Nat} (h : n < 100) : FnOk Tryz.prog 61 [.int .i64 (n : Int)] G [] fun r _ H' => H' = [] ∧ r = .string ⟨(digT n).toArray⟩ := fun w hw =>
  (Tryz.strconv_Itoa_small n h w).mono fun e w' he => by
    obtain ⟨rfl, rfl⟩ := he
    exact ⟨_, _, _, rfl, hw, rfl, by rw [dec_dig ⟨n, h⟩]⟩


theorem digT_len (n : Nat) : (digT n).length ≤ 2 := by unfold digT; split <;> simp


set_option maxHeartbeats 400000 in
set_option maxRecDepth 10000 in
theorem btxt_ok {G : Ghost} {mn mx : Int} (h1 : 0 ≤ mn) (h2 : mn ≤ 16) (h3 : -1 ≤ mx) (h4 : mx ≤ 16) :
  FnOk Tryz.prog 40 [.int .i64 mn, .int .i64 mx] G [] fun r _ H' => H' = [] ∧ r = .string ⟨(sufT mn mx).toArray⟩ := by
 obtain ⟨a, rfl⟩ : ∃ a : Nat, mn = (a : Int) := Int.eq_ofNat_of_zero_le h1
 refine FnOk.of_T [(0, _), (1, _)] Tryz.func40 rfl Tryz.ntmps40 (by simp) rfl fun w0 hs => ?_
 refine T_seq (T_region rfl ?_)
 refine O_a rfl ?_
 refine O_nil (T_kp [0, 1] rfl ?_)
 refine T_seq (T_block (T_seq (T_region rfl ?_)))
 refine O_m rfl ?_
 refine O_y hs (Y_cmpS rfl rfl rfl (fun h7 => ?_) (fun h7 => ?_))
 ·
  dsimp only [cmpP] at h7
  refine O_m rfl ?_
  refine O_yy 8 hs rfl rfl (Y_move rfl ?_)
  refine O_yy 8 hs rfl rfl (Y_cmpS rfl rfl rfl (fun h10 => ?_) (fun h10 => ?_))
  ·
   dsimp only [cmpP] at h10
   refine O_y hs (Y_pickT rfl rfl ?_)
   refine O_a rfl ?_
   refine O_nil (T_kp [0, 1, 5] rfl ?_)
   refine T_condT rfl (T_seq (T_region rfl ?_))
   refine O_a rfl ?_
   refine O_nil (T_kp [4] rfl ?_)
   refine T_ret ?_
   refine Rt_fin (vs := [_]) Tryz.results40 rfl ⟨rfl, trivial⟩ ?_
   try dsimp only [tup]
   exact ⟨_, [], hs.done, rfl, by unfold sufT; rw [if_pos (by omega)]; try rfl⟩
  ·
   dsimp only [cmpP] at h10
   refine O_y hs (Y_pickT rfl rfl ?_)
   refine O_a rfl ?_
   refine O_nil (T_kp [0, 1, 5] rfl ?_)
   refine T_condF rfl (T_seq (T_region rfl ?_))
   refine O_m rfl ?_
   refine O_y hs (Y_cmpS rfl rfl rfl (fun h14 => ?_) (fun h14 => ?_))
   ·
    dsimp only [cmpP] at h14
    refine O_m rfl ?_
    refine O_yy 15 hs rfl rfl (Y_move rfl ?_)
    refine O_yy 15 hs rfl rfl (Y_cmpS rfl rfl rfl (fun h17 => ?_) (fun h17 => ?_))
    ·
     dsimp only [cmpP] at h17
     refine O_y hs (Y_pickT rfl rfl ?_)
     refine O_a rfl ?_
     refine O_nil (T_kp [0, 1, 12] rfl ?_)
     refine T_condT rfl (T_seq (T_region rfl ?_))
     refine O_a rfl ?_
     refine O_nil (T_kp [4] rfl ?_)
     refine T_ret ?_
     refine Rt_fin (vs := [_]) Tryz.results40 rfl ⟨rfl, trivial⟩ ?_
     try dsimp only [tup]
     exact ⟨_, [], hs.done, rfl, by unfold sufT; rw [if_neg (by omega), if_pos (by omega)]; try rfl⟩
    ·
     dsimp only [cmpP] at h17
     refine O_y hs (Y_pickT rfl rfl ?_)
     refine O_a rfl ?_
     refine O_nil (T_kp [0, 1, 12] rfl ?_)
     refine T_condF rfl (T_seq (T_region rfl ?_))
     refine O_m rfl ?_
     refine O_y hs (Y_cmpS rfl rfl rfl (fun h21 => ?_) (fun h21 => ?_))
     ·
      dsimp only [cmpP] at h21
      refine O_m rfl ?_
      refine O_yy 22 hs rfl rfl (Y_move rfl ?_)
      refine O_yy 22 hs rfl rfl (Y_cmpS rfl rfl rfl (fun h24 => ?_) (fun h24 => ?_))
      ·
       dsimp only [cmpP] at h24
       refine O_y hs (Y_pickT rfl rfl ?_)
       refine O_a rfl ?_
       refine O_nil (T_kp [0, 1, 19] rfl ?_)
       refine T_condT rfl (T_seq (T_region rfl ?_))
       refine O_a rfl ?_
       refine O_nil (T_kp [4] rfl ?_)
       refine T_ret ?_
       refine Rt_fin (vs := [_]) Tryz.results40 rfl ⟨rfl, trivial⟩ ?_
       try dsimp only [tup]
       exact ⟨_, [], hs.done, rfl, by unfold sufT; rw [if_neg (by omega), if_neg (by omega), if_pos (by omega)]; try rfl⟩
      ·
       dsimp only [cmpP] at h24
       refine O_y hs (Y_pickT rfl rfl ?_)
       refine O_a rfl ?_
       refine O_nil (T_kp [0, 1, 19] rfl ?_)
       refine T_condF rfl (T_seq (T_region rfl ?_))
       refine O_m rfl ?_
       refine O_y hs (Y_cmpS rfl rfl rfl (fun h28 => ?_) (fun h28 => ?_))
       ·
        dsimp only [cmpP] at h28
        refine O_a rfl ?_
        refine O_nil (T_kp [0, 1, 26] rfl ?_)
        refine T_condT rfl (T_seq (T_region rfl ?_))
        refine O_m rfl ?_
        refine O_s (S_call (H1 := []) hs rfl Tryz.func61 rfl (by kernel_rfl) (itoa_ok (n := a) (by omega)) fun v1 G' H' _ hR hG30 hs => ?_)
        obtain ⟨rfl, rfl⟩ := hR
        replace hs : St _ _ [] _ := hs
        refine O_y hs (Y_cat rfl rfl (by have h9 := digT_len a; simp only [List.length_append, List.length_cons, List.length_nil]; omega) ?_)
        refine O_y hs (Y_cat rfl rfl (by have h9 := digT_len a; simp only [List.length_append, List.length_cons, List.length_nil]; omega) ?_)
        refine O_a rfl ?_
        refine O_nil (T_kp [4] rfl ?_)
        refine T_ret ?_
        refine Rt_fin (vs := [_]) Tryz.results40 rfl ⟨rfl, trivial⟩ ?_
        try dsimp only [tup]
        exact ⟨_, [], hs.done, rfl, by unfold sufT; rw [if_neg (by omega), if_neg (by omega), if_neg (by omega), if_pos (by omega)]; simp⟩
       ·
        dsimp only [cmpP] at h28
        refine O_a rfl ?_
        refine O_nil (T_kp [0, 1, 26] rfl ?_)
        refine T_condF rfl (T_skip ?_)
        refine T_seq (T_region rfl ?_)
        refine O_m rfl ?_
        obtain ⟨b, rfl⟩ : ∃ b : Nat, mx = (b : Int) := Int.eq_ofNat_of_zero_le (by omega)
        refine O_s (S_call (H1 := []) hs rfl Tryz.func61 rfl (by kernel_rfl) (itoa_ok (n := a) (by omega)) fun v2 G' H' _ hR hG34 hs => ?_)
        obtain ⟨rfl, rfl⟩ := hR
        replace hs : St _ _ [] _ := hs
        refine O_y hs (Y_cat rfl rfl (by have h9 := digT_len a; simp only [List.length_append, List.length_cons, List.length_nil]; omega) ?_)
        refine O_y hs (Y_cat rfl rfl (by have h9 := digT_len a; simp only [List.length_append, List.length_cons, List.length_nil]; omega) ?_)
        refine O_m rfl ?_
        refine O_s (S_call (H1 := []) hs rfl Tryz.func61 rfl (by kernel_rfl) (itoa_ok (n := b) (by omega)) fun v3 G' H' _ hR hG38 hs => ?_)
        obtain ⟨rfl, rfl⟩ := hR
        replace hs : St _ _ [] _ := hs
        refine O_y hs (Y_cat rfl rfl (by have h9 := digT_len a; have h8 := digT_len b; simp only [List.length_append, List.length_cons, List.length_nil]; omega) ?_)
        refine O_y hs (Y_cat rfl rfl (by have h9 := digT_len a; have h8 := digT_len b; simp only [List.length_append, List.length_cons, List.length_nil]; omega) ?_)
        refine O_a rfl ?_
        refine O_nil (T_kp [4] rfl ?_)
        refine T_ret ?_
        refine Rt_fin (vs := [_]) Tryz.results40 rfl ⟨rfl, trivial⟩ ?_
        try dsimp only [tup]
        exact ⟨_, [], hs.done, rfl, by unfold sufT; rw [if_neg (by omega), if_neg (by omega), if_neg (by omega), if_neg (by omega)]; simp⟩
     ·
      dsimp only [cmpP] at h21
      refine O_m rfl ?_
      refine O_no 22 rfl rfl ?_
      refine O_no 22 rfl rfl ?_
      refine O_y hs (Y_pickF rfl rfl ?_)
      refine O_a rfl ?_
      refine O_nil (T_kp [0, 1, 19] rfl ?_)
      refine T_condF rfl (T_seq (T_region rfl ?_))
      refine O_m rfl ?_
      refine O_y hs (Y_cmpS rfl rfl rfl (fun h28 => ?_) (fun h28 => ?_))
      ·
       dsimp only [cmpP] at h28
       refine O_a rfl ?_
       refine O_nil (T_kp [0, 1, 26] rfl ?_)
       refine T_condT rfl (T_seq (T_region rfl ?_))
       refine O_m rfl ?_
       refine O_s (S_call (H1 := []) hs rfl Tryz.func61 rfl (by kernel_rfl) (itoa_ok (n := a) (by omega)) fun v4 G' H' _ hR hG30 hs => ?_)
       obtain ⟨rfl, rfl⟩ := hR
       replace hs : St _ _ [] _ := hs
       refine O_y hs (Y_cat rfl rfl (by have h9 := digT_len a; simp only [List.length_append, List.length_cons, List.length_nil]; omega) ?_)
       refine O_y hs (Y_cat rfl rfl (by have h9 := digT_len a; simp only [List.length_append, List.length_cons, List.length_nil]; omega) ?_)
       refine O_a rfl ?_
       refine O_nil (T_kp [4] rfl ?_)
       refine T_ret ?_
       refine Rt_fin (vs := [_]) Tryz.results40 rfl ⟨rfl, trivial⟩ ?_
       try dsimp only [tup]
       exact ⟨_, [], hs.done, rfl, by unfold sufT; rw [if_neg (by omega), if_neg (by omega), if_neg (by omega), if_pos (by omega)]; simp⟩
      ·
       dsimp only [cmpP] at h28
       refine O_a rfl ?_
       refine O_nil (T_kp [0, 1, 26] rfl ?_)
       refine T_condF rfl (T_skip ?_)
       refine T_seq (T_region rfl ?_)
       refine O_m rfl ?_
       obtain ⟨b, rfl⟩ : ∃ b : Nat, mx = (b : Int) := Int.eq_ofNat_of_zero_le (by omega)
       refine O_s (S_call (H1 := []) hs rfl Tryz.func61 rfl (by kernel_rfl) (itoa_ok (n := a) (by omega)) fun v5 G' H' _ hR hG34 hs => ?_)
       obtain ⟨rfl, rfl⟩ := hR
       replace hs : St _ _ [] _ := hs
       refine O_y hs (Y_cat rfl rfl (by have h9 := digT_len a; simp only [List.length_append, List.length_cons, List.length_nil]; omega) ?_)
       refine O_y hs (Y_cat rfl rfl (by have h9 := digT_len a; simp only [List.length_append, List.length_cons, List.length_nil]; omega) ?_)
       refine O_m rfl ?_
       refine O_s (S_call (H1 := []) hs rfl Tryz.func61 rfl (by kernel_rfl) (itoa_ok (n := b) (by omega)) fun v6 G' H' _ hR hG38 hs => ?_)
       obtain ⟨rfl, rfl⟩ := hR
       replace hs : St _ _ [] _ := hs
       refine O_y hs (Y_cat rfl rfl (by have h9 := digT_len a; have h8 := digT_len b; simp only [List.length_append, List.length_cons, List.length_nil]; omega) ?_)
       refine O_y hs (Y_cat rfl rfl (by have h9 := digT_len a; have h8 := digT_len b; simp only [List.length_append, List.length_cons, List.length_nil]; omega) ?_)
       refine O_a rfl ?_
       refine O_nil (T_kp [4] rfl ?_)
       refine T_ret ?_
       refine Rt_fin (vs := [_]) Tryz.results40 rfl ⟨rfl, trivial⟩ ?_
       try dsimp only [tup]
       exact ⟨_, [], hs.done, rfl, by unfold sufT; rw [if_neg (by omega), if_neg (by omega), if_neg (by omega), if_neg (by omega)]; simp⟩
   ·
    dsimp only [cmpP] at h14
    refine O_m rfl ?_
    refine O_no 15 rfl rfl ?_
    refine O_no 15 rfl rfl ?_
    refine O_y hs (Y_pickF rfl rfl ?_)
    refine O_a rfl ?_
    refine O_nil (T_kp [0, 1, 12] rfl ?_)
    refine T_condF rfl (T_seq (T_region rfl ?_))
    refine O_m rfl ?_
    refine O_y hs (Y_cmpS rfl rfl rfl (fun h21 => ?_) (fun h21 => ?_))
    ·
     dsimp only [cmpP] at h21
     refine O_m rfl ?_
     refine O_yy 22 hs rfl rfl (Y_move rfl ?_)
     refine O_yy 22 hs rfl rfl (Y_cmpS rfl rfl rfl (fun h24 => ?_) (fun h24 => ?_))
     ·
      dsimp only [cmpP] at h24
      refine O_y hs (Y_pickT rfl rfl ?_)
      refine O_a rfl ?_
      refine O_nil (T_kp [0, 1, 19] rfl ?_)
      refine T_condT rfl (T_seq (T_region rfl ?_))
      refine O_a rfl ?_
      refine O_nil (T_kp [4] rfl ?_)
      refine T_ret ?_
      refine Rt_fin (vs := [_]) Tryz.results40 rfl ⟨rfl, trivial⟩ ?_
      try dsimp only [tup]
      exact ⟨_, [], hs.done, rfl, by unfold sufT; rw [if_neg (by omega), if_neg (by omega), if_pos (by omega)]; try rfl⟩
     ·
      dsimp only [cmpP] at h24
      refine O_y hs (Y_pickT rfl rfl ?_)
      refine O_a rfl ?_
      refine O_nil (T_kp [0, 1, 19] rfl ?_)
      refine T_condF rfl (T_seq (T_region rfl ?_))
      refine O_m rfl ?_
      refine O_y hs (Y_cmpS rfl rfl rfl (fun h28 => ?_) (fun h28 => ?_))
      ·
       dsimp only [cmpP] at h28
       refine O_a rfl ?_
       refine O_nil (T_kp [0, 1, 26] rfl ?_)
       refine T_condT rfl (T_seq (T_region rfl ?_))
       refine O_m rfl ?_
       refine O_s (S_call (H1 := []) hs rfl Tryz.func61 rfl (by kernel_rfl) (itoa_ok (n := a) (by omega)) fun v7 G' H' _ hR hG30 hs => ?_)
       obtain ⟨rfl, rfl⟩ := hR
       replace hs : St _ _ [] _ := hs
       refine O_y hs (Y_cat rfl rfl (by have h9 := digT_len a; simp only [List.length_append, List.length_cons, List.length_nil]; omega) ?_)
       refine O_y hs (Y_cat rfl rfl (by have h9 := digT_len a; simp only [List.length_append, List.length_cons, List.length_nil]; omega) ?_)
       refine O_a rfl ?_
       refine O_nil (T_kp [4] rfl ?_)
       refine T_ret ?_
       refine Rt_fin (vs := [_]) Tryz.results40 rfl ⟨rfl, trivial⟩ ?_
       try dsimp only [tup]
       exact ⟨_, [], hs.done, rfl, by unfold sufT; rw [if_neg (by omega), if_neg (by omega), if_neg (by omega), if_pos (by omega)]; simp⟩
      ·
       dsimp only [cmpP] at h28
       refine O_a rfl ?_
       refine O_nil (T_kp [0, 1, 26] rfl ?_)
       refine T_condF rfl (T_skip ?_)
       refine T_seq (T_region rfl ?_)
       refine O_m rfl ?_
       obtain ⟨b, rfl⟩ : ∃ b : Nat, mx = (b : Int) := Int.eq_ofNat_of_zero_le (by omega)
       refine O_s (S_call (H1 := []) hs rfl Tryz.func61 rfl (by kernel_rfl) (itoa_ok (n := a) (by omega)) fun v8 G' H' _ hR hG34 hs => ?_)
       obtain ⟨rfl, rfl⟩ := hR
       replace hs : St _ _ [] _ := hs
       refine O_y hs (Y_cat rfl rfl (by have h9 := digT_len a; simp only [List.length_append, List.length_cons, List.length_nil]; omega) ?_)
       refine O_y hs (Y_cat rfl rfl (by have h9 := digT_len a; simp only [List.length_append, List.length_cons, List.length_nil]; omega) ?_)
       refine O_m rfl ?_
       refine O_s (S_call (H1 := []) hs rfl Tryz.func61 rfl (by kernel_rfl) (itoa_ok (n := b) (by omega)) fun v9 G' H' _ hR hG38 hs => ?_)
       obtain ⟨rfl, rfl⟩ := hR
       replace hs : St _ _ [] _ := hs
       refine O_y hs (Y_cat rfl rfl (by have h9 := digT_len a; have h8 := digT_len b; simp only [List.length_append, List.length_cons, List.length_nil]; omega) ?_)
       refine O_y hs (Y_cat rfl rfl (by have h9 := digT_len a; have h8 := digT_len b; simp only [List.length_append, List.length_cons, List.length_nil]; omega) ?_)
       refine O_a rfl ?_
       refine O_nil (T_kp [4] rfl ?_)
       refine T_ret ?_
       refine Rt_fin (vs := [_]) Tryz.results40 rfl ⟨rfl, trivial⟩ ?_
       try dsimp only [tup]
       exact ⟨_, [], hs.done, rfl, by unfold sufT; rw [if_neg (by omega), if_neg (by omega), if_neg (by omega), if_neg (by omega)]; simp⟩
    ·
     dsimp only [cmpP] at h21
     refine O_m rfl ?_
     refine O_no 22 rfl rfl ?_
     refine O_no 22 rfl rfl ?_
     refine O_y hs (Y_pickF rfl rfl ?_)
     refine O_a rfl ?_
     refine O_nil (T_kp [0, 1, 19] rfl ?_)
     refine T_condF rfl (T_seq (T_region rfl ?_))
     refine O_m rfl ?_
     refine O_y hs (Y_cmpS rfl rfl rfl (fun h28 => ?_) (fun h28 => ?_))
     ·
      dsimp only [cmpP] at h28
      refine O_a rfl ?_
      refine O_nil (T_kp [0, 1, 26] rfl ?_)
      refine T_condT rfl (T_seq (T_region rfl ?_))
      refine O_m rfl ?_
      refine O_s (S_call (H1 := []) hs rfl Tryz.func61 rfl (by kernel_rfl) (itoa_ok (n := a) (by omega)) fun v10 G' H' _ hR hG30 hs => ?_)
      obtain ⟨rfl, rfl⟩ := hR
      replace hs : St _ _ [] _ := hs
      refine O_y hs (Y_cat rfl rfl (by have h9 := digT_len a; simp only [List.length_append, List.length_cons, List.length_nil]; omega) ?_)
      refine O_y hs (Y_cat rfl rfl (by have h9 := digT_len a; simp only [List.length_append, List.length_cons, List.length_nil]; omega) ?_)
      refine O_a rfl ?_
      refine O_nil (T_kp [4] rfl ?_)
      refine T_ret ?_
      refine Rt_fin (vs := [_]) Tryz.results40 rfl ⟨rfl, trivial⟩ ?_
      try dsimp only [tup]
      exact ⟨_, [], hs.done, rfl, by unfold sufT; rw [if_neg (by omega), if_neg (by omega), if_neg (by omega), if_pos (by omega)]; simp⟩
     ·
      dsimp only [cmpP] at h28
      refine O_a rfl ?_
      refine O_nil (T_kp [0, 1, 26] rfl ?_)
      refine T_condF rfl (T_skip ?_)
      refine T_seq (T_region rfl ?_)
      refine O_m rfl ?_
      obtain ⟨b, rfl⟩ : ∃ b : Nat, mx = (b : Int) := Int.eq_ofNat_of_zero_le (by omega)
      refine O_s (S_call (H1 := []) hs rfl Tryz.func61 rfl (by kernel_rfl) (itoa_ok (n := a) (by omega)) fun v11 G' H' _ hR hG34 hs => ?_)
      obtain ⟨rfl, rfl⟩ := hR
      replace hs : St _ _ [] _ := hs
      refine O_y hs (Y_cat rfl rfl (by have h9 := digT_len a; simp only [List.length_append, List.length_cons, List.length_nil]; omega) ?_)
      refine O_y hs (Y_cat rfl rfl (by have h9 := digT_len a; simp only [List.length_append, List.length_cons, List.length_nil]; omega) ?_)
      refine O_m rfl ?_
      refine O_s (S_call (H1 := []) hs rfl Tryz.func61 rfl (by kernel_rfl) (itoa_ok (n := b) (by omega)) fun v12 G' H' _ hR hG38 hs => ?_)
      obtain ⟨rfl, rfl⟩ := hR
      replace hs : St _ _ [] _ := hs
      refine O_y hs (Y_cat rfl rfl (by have h9 := digT_len a; have h8 := digT_len b; simp only [List.length_append, List.length_cons, List.length_nil]; omega) ?_)
      refine O_y hs (Y_cat rfl rfl (by have h9 := digT_len a; have h8 := digT_len b; simp only [List.length_append, List.length_cons, List.length_nil]; omega) ?_)
      refine O_a rfl ?_
      refine O_nil (T_kp [4] rfl ?_)
      refine T_ret ?_
      refine Rt_fin (vs := [_]) Tryz.results40 rfl ⟨rfl, trivial⟩ ?_
      try dsimp only [tup]
      exact ⟨_, [], hs.done, rfl, by unfold sufT; rw [if_neg (by omega), if_neg (by omega), if_neg (by omega), if_neg (by omega)]; simp⟩
 ·
  dsimp only [cmpP] at h7
  refine O_m rfl ?_
  refine O_no 8 rfl rfl ?_
  refine O_no 8 rfl rfl ?_
  refine O_y hs (Y_pickF rfl rfl ?_)
  refine O_a rfl ?_
  refine O_nil (T_kp [0, 1, 5] rfl ?_)
  refine T_condF rfl (T_seq (T_region rfl ?_))
  refine O_m rfl ?_
  refine O_y hs (Y_cmpS rfl rfl rfl (fun h14 => ?_) (fun h14 => ?_))
  ·
   dsimp only [cmpP] at h14
   refine O_m rfl ?_
   refine O_yy 15 hs rfl rfl (Y_move rfl ?_)
   refine O_yy 15 hs rfl rfl (Y_cmpS rfl rfl rfl (fun h17 => ?_) (fun h17 => ?_))
   ·
    dsimp only [cmpP] at h17
    refine O_y hs (Y_pickT rfl rfl ?_)
    refine O_a rfl ?_
    refine O_nil (T_kp [0, 1, 12] rfl ?_)
    refine T_condT rfl (T_seq (T_region rfl ?_))
    refine O_a rfl ?_
    refine O_nil (T_kp [4] rfl ?_)
    refine T_ret ?_
    refine Rt_fin (vs := [_]) Tryz.results40 rfl ⟨rfl, trivial⟩ ?_
    try dsimp only [tup]
    exact ⟨_, [], hs.done, rfl, by unfold sufT; rw [if_neg (by omega), if_pos (by omega)]; try rfl⟩
   ·
    dsimp only [cmpP] at h17
    refine O_y hs (Y_pickT rfl rfl ?_)
    refine O_a rfl ?_
    refine O_nil (T_kp [0, 1, 12] rfl ?_)
    refine T_condF rfl (T_seq (T_region rfl ?_))
    refine O_m rfl ?_
    refine O_y hs (Y_cmpS rfl rfl rfl (fun h21 => ?_) (fun h21 => ?_))
    ·
     dsimp only [cmpP] at h21
     refine O_m rfl ?_
     refine O_yy 22 hs rfl rfl (Y_move rfl ?_)
     refine O_yy 22 hs rfl rfl (Y_cmpS rfl rfl rfl (fun h24 => ?_) (fun h24 => ?_))
     ·
      dsimp only [cmpP] at h24
      refine O_y hs (Y_pickT rfl rfl ?_)
      refine O_a rfl ?_
      refine O_nil (T_kp [0, 1, 19] rfl ?_)
      refine T_condT rfl (T_seq (T_region rfl ?_))
      refine O_a rfl ?_
      refine O_nil (T_kp [4] rfl ?_)
      refine T_ret ?_
      refine Rt_fin (vs := [_]) Tryz.results40 rfl ⟨rfl, trivial⟩ ?_
      try dsimp only [tup]
      exact ⟨_, [], hs.done, rfl, by unfold sufT; rw [if_neg (by omega), if_neg (by omega), if_pos (by omega)]; try rfl⟩
     ·
      dsimp only [cmpP] at h24
      refine O_y hs (Y_pickT rfl rfl ?_)
      refine O_a rfl ?_
      refine O_nil (T_kp [0, 1, 19] rfl ?_)
      refine T_condF rfl (T_seq (T_region rfl ?_))
      refine O_m rfl ?_
      refine O_y hs (Y_cmpS rfl rfl rfl (fun h28 => ?_) (fun h28 => ?_))
      ·
       dsimp only [cmpP] at h28
       refine O_a rfl ?_
       refine O_nil (T_kp [0, 1, 26] rfl ?_)
       refine T_condT rfl (T_seq (T_region rfl ?_))
       refine O_m rfl ?_
       refine O_s (S_call (H1 := []) hs rfl Tryz.func61 rfl (by kernel_rfl) (itoa_ok (n := a) (by omega)) fun v13 G' H' _ hR hG30 hs => ?_)
       obtain ⟨rfl, rfl⟩ := hR
       replace hs : St _ _ [] _ := hs
       refine O_y hs (Y_cat rfl rfl (by have h9 := digT_len a; simp only [List.length_append, List.length_cons, List.length_nil]; omega) ?_)
       refine O_y hs (Y_cat rfl rfl (by have h9 := digT_len a; simp only [List.length_append, List.length_cons, List.length_nil]; omega) ?_)
       refine O_a rfl ?_
       refine O_nil (T_kp [4] rfl ?_)
       refine T_ret ?_
       refine Rt_fin (vs := [_]) Tryz.results40 rfl ⟨rfl, trivial⟩ ?_
       try dsimp only [tup]
       exact ⟨_, [], hs.done, rfl, by unfold sufT; rw [if_neg (by omega), if_neg (by omega), if_neg (by omega), if_pos (by omega)]; simp⟩
      ·
       dsimp only [cmpP] at h28
       refine O_a rfl ?_
       refine O_nil (T_kp [0, 1, 26] rfl ?_)
       refine T_condF rfl (T_skip ?_)
       refine T_seq (T_region rfl ?_)
       refine O_m rfl ?_
       obtain ⟨b, rfl⟩ : ∃ b : Nat, mx = (b : Int) := Int.eq_ofNat_of_zero_le (by omega)
       refine O_s (S_call (H1 := []) hs rfl Tryz.func61 rfl (by kernel_rfl) (itoa_ok (n := a) (by omega)) fun v14 G' H' _ hR hG34 hs => ?_)
       obtain ⟨rfl, rfl⟩ := hR
       replace hs : St _ _ [] _ := hs
       refine O_y hs (Y_cat rfl rfl (by have h9 := digT_len a; simp only [List.length_append, List.length_cons, List.length_nil]; omega) ?_)
       refine O_y hs (Y_cat rfl rfl (by have h9 := digT_len a; simp only [List.length_append, List.length_cons, List.length_nil]; omega) ?_)
       refine O_m rfl ?_
       refine O_s (S_call (H1 := []) hs rfl Tryz.func61 rfl (by kernel_rfl) (itoa_ok (n := b) (by omega)) fun v15 G' H' _ hR hG38 hs => ?_)
       obtain ⟨rfl, rfl⟩ := hR
       replace hs : St _ _ [] _ := hs
       refine O_y hs (Y_cat rfl rfl (by have h9 := digT_len a; have h8 := digT_len b; simp only [List.length_append, List.length_cons, List.length_nil]; omega) ?_)
       refine O_y hs (Y_cat rfl rfl (by have h9 := digT_len a; have h8 := digT_len b; simp only [List.length_append, List.length_cons, List.length_nil]; omega) ?_)
       refine O_a rfl ?_
       refine O_nil (T_kp [4] rfl ?_)
       refine T_ret ?_
       refine Rt_fin (vs := [_]) Tryz.results40 rfl ⟨rfl, trivial⟩ ?_
       try dsimp only [tup]
       exact ⟨_, [], hs.done, rfl, by unfold sufT; rw [if_neg (by omega), if_neg (by omega), if_neg (by omega), if_neg (by omega)]; simp⟩
    ·
     dsimp only [cmpP] at h21
     refine O_m rfl ?_
     refine O_no 22 rfl rfl ?_
     refine O_no 22 rfl rfl ?_
     refine O_y hs (Y_pickF rfl rfl ?_)
     refine O_a rfl ?_
     refine O_nil (T_kp [0, 1, 19] rfl ?_)
     refine T_condF rfl (T_seq (T_region rfl ?_))
     refine O_m rfl ?_
     refine O_y hs (Y_cmpS rfl rfl rfl (fun h28 => ?_) (fun h28 => ?_))
     ·
      dsimp only [cmpP] at h28
      refine O_a rfl ?_
      refine O_nil (T_kp [0, 1, 26] rfl ?_)
      refine T_condT rfl (T_seq (T_region rfl ?_))
      refine O_m rfl ?_
      refine O_s (S_call (H1 := []) hs rfl Tryz.func61 rfl (by kernel_rfl) (itoa_ok (n := a) (by omega)) fun v16 G' H' _ hR hG30 hs => ?_)
      obtain ⟨rfl, rfl⟩ := hR
      replace hs : St _ _ [] _ := hs
      refine O_y hs (Y_cat rfl rfl (by have h9 := digT_len a; simp only [List.length_append, List.length_cons, List.length_nil]; omega) ?_)
      refine O_y hs (Y_cat rfl rfl (by have h9 := digT_len a; simp only [List.length_append, List.length_cons, List.length_nil]; omega) ?_)
      refine O_a rfl ?_
      refine O_nil (T_kp [4] rfl ?_)
      refine T_ret ?_
      refine Rt_fin (vs := [_]) Tryz.results40 rfl ⟨rfl, trivial⟩ ?_
      try dsimp only [tup]
      exact ⟨_, [], hs.done, rfl, by unfold sufT; rw [if_neg (by omega), if_neg (by omega), if_neg (by omega), if_pos (by omega)]; simp⟩
     ·
      dsimp only [cmpP] at h28
      refine O_a rfl ?_
      refine O_nil (T_kp [0, 1, 26] rfl ?_)
      refine T_condF rfl (T_skip ?_)
      refine T_seq (T_region rfl ?_)
      refine O_m rfl ?_
      obtain ⟨b, rfl⟩ : ∃ b : Nat, mx = (b : Int) := Int.eq_ofNat_of_zero_le (by omega)
      refine O_s (S_call (H1 := []) hs rfl Tryz.func61 rfl (by kernel_rfl) (itoa_ok (n := a) (by omega)) fun v17 G' H' _ hR hG34 hs => ?_)
      obtain ⟨rfl, rfl⟩ := hR
      replace hs : St _ _ [] _ := hs
      refine O_y hs (Y_cat rfl rfl (by have h9 := digT_len a; simp only [List.length_append, List.length_cons, List.length_nil]; omega) ?_)
      refine O_y hs (Y_cat rfl rfl (by have h9 := digT_len a; simp only [List.length_append, List.length_cons, List.length_nil]; omega) ?_)
      refine O_m rfl ?_
      refine O_s (S_call (H1 := []) hs rfl Tryz.func61 rfl (by kernel_rfl) (itoa_ok (n := b) (by omega)) fun v18 G' H' _ hR hG38 hs => ?_)
      obtain ⟨rfl, rfl⟩ := hR
      replace hs : St _ _ [] _ := hs
      refine O_y hs (Y_cat rfl rfl (by have h9 := digT_len a; have h8 := digT_len b; simp only [List.length_append, List.length_cons, List.length_nil]; omega) ?_)
      refine O_y hs (Y_cat rfl rfl (by have h9 := digT_len a; have h8 := digT_len b; simp only [List.length_append, List.length_cons, List.length_nil]; omega) ?_)
      refine O_a rfl ?_
      refine O_nil (T_kp [4] rfl ?_)
      refine T_ret ?_
      refine Rt_fin (vs := [_]) Tryz.results40 rfl ⟨rfl, trivial⟩ ?_
      try dsimp only [tup]
      exact ⟨_, [], hs.done, rfl, by unfold sufT; rw [if_neg (by omega), if_neg (by omega), if_neg (by omega), if_neg (by omega)]; simp⟩
  ·
   dsimp only [cmpP] at h14
   refine O_m rfl ?_
   refine O_no 15 rfl rfl ?_
   refine O_no 15 rfl rfl ?_
   refine O_y hs (Y_pickF rfl rfl ?_)
   refine O_a rfl ?_
   refine O_nil (T_kp [0, 1, 12] rfl ?_)
   refine T_condF rfl (T_seq (T_region rfl ?_))
   refine O_m rfl ?_
   refine O_y hs (Y_cmpS rfl rfl rfl (fun h21 => ?_) (fun h21 => ?_))
   ·
    dsimp only [cmpP] at h21
    refine O_m rfl ?_
    refine O_yy 22 hs rfl rfl (Y_move rfl ?_)
    refine O_yy 22 hs rfl rfl (Y_cmpS rfl rfl rfl (fun h24 => ?_) (fun h24 => ?_))
    ·
     dsimp only [cmpP] at h24
     refine O_y hs (Y_pickT rfl rfl ?_)
     refine O_a rfl ?_
     refine O_nil (T_kp [0, 1, 19] rfl ?_)
     refine T_condT rfl (T_seq (T_region rfl ?_))
     refine O_a rfl ?_
     refine O_nil (T_kp [4] rfl ?_)
     refine T_ret ?_
     refine Rt_fin (vs := [_]) Tryz.results40 rfl ⟨rfl, trivial⟩ ?_
     try dsimp only [tup]
     exact ⟨_, [], hs.done, rfl, by unfold sufT; rw [if_neg (by omega), if_neg (by omega), if_pos (by omega)]; try rfl⟩
    ·
     dsimp only [cmpP] at h24
     refine O_y hs (Y_pickT rfl rfl ?_)
     refine O_a rfl ?_
     refine O_nil (T_kp [0, 1, 19] rfl ?_)
     refine T_condF rfl (T_seq (T_region rfl ?_))
     refine O_m rfl ?_
     refine O_y hs (Y_cmpS rfl rfl rfl (fun h28 => ?_) (fun h28 => ?_))
     ·
      dsimp only [cmpP] at h28
      refine O_a rfl ?_
      refine O_nil (T_kp [0, 1, 26] rfl ?_)
      refine T_condT rfl (T_seq (T_region rfl ?_))
      refine O_m rfl ?_
      refine O_s (S_call (H1 := []) hs rfl Tryz.func61 rfl (by kernel_rfl) (itoa_ok (n := a) (by omega)) fun v19 G' H' _ hR hG30 hs => ?_)
      obtain ⟨rfl, rfl⟩ := hR
      replace hs : St _ _ [] _ := hs
      refine O_y hs (Y_cat rfl rfl (by have h9 := digT_len a; simp only [List.length_append, List.length_cons, List.length_nil]; omega) ?_)
      refine O_y hs (Y_cat rfl rfl (by have h9 := digT_len a; simp only [List.length_append, List.length_cons, List.length_nil]; omega) ?_)
      refine O_a rfl ?_
      refine O_nil (T_kp [4] rfl ?_)
      refine T_ret ?_
      refine Rt_fin (vs := [_]) Tryz.results40 rfl ⟨rfl, trivial⟩ ?_
      try dsimp only [tup]
      exact ⟨_, [], hs.done, rfl, by unfold sufT; rw [if_neg (by omega), if_neg (by omega), if_neg (by omega), if_pos (by omega)]; simp⟩
     ·
      dsimp only [cmpP] at h28
      refine O_a rfl ?_
      refine O_nil (T_kp [0, 1, 26] rfl ?_)
      refine T_condF rfl (T_skip ?_)
      refine T_seq (T_region rfl ?_)
      refine O_m rfl ?_
      obtain ⟨b, rfl⟩ : ∃ b : Nat, mx = (b : Int) := Int.eq_ofNat_of_zero_le (by omega)
      refine O_s (S_call (H1 := []) hs rfl Tryz.func61 rfl (by kernel_rfl) (itoa_ok (n := a) (by omega)) fun v20 G' H' _ hR hG34 hs => ?_)
      obtain ⟨rfl, rfl⟩ := hR
      replace hs : St _ _ [] _ := hs
      refine O_y hs (Y_cat rfl rfl (by have h9 := digT_len a; simp only [List.length_append, List.length_cons, List.length_nil]; omega) ?_)
      refine O_y hs (Y_cat rfl rfl (by have h9 := digT_len a; simp only [List.length_append, List.length_cons, List.length_nil]; omega) ?_)
      refine O_m rfl ?_
      refine O_s (S_call (H1 := []) hs rfl Tryz.func61 rfl (by kernel_rfl) (itoa_ok (n := b) (by omega)) fun v21 G' H' _ hR hG38 hs => ?_)
      obtain ⟨rfl, rfl⟩ := hR
      replace hs : St _ _ [] _ := hs
      refine O_y hs (Y_cat rfl rfl (by have h9 := digT_len a; have h8 := digT_len b; simp only [List.length_append, List.length_cons, List.length_nil]; omega) ?_)
      refine O_y hs (Y_cat rfl rfl (by have h9 := digT_len a; have h8 := digT_len b; simp only [List.length_append, List.length_cons, List.length_nil]; omega) ?_)
      refine O_a rfl ?_
      refine O_nil (T_kp [4] rfl ?_)
      refine T_ret ?_
      refine Rt_fin (vs := [_]) Tryz.results40 rfl ⟨rfl, trivial⟩ ?_
      try dsimp only [tup]
      exact ⟨_, [], hs.done, rfl, by unfold sufT; rw [if_neg (by omega), if_neg (by omega), if_neg (by omega), if_neg (by omega)]; simp⟩
   ·
    dsimp only [cmpP] at h21
    refine O_m rfl ?_
    refine O_no 22 rfl rfl ?_
    refine O_no 22 rfl rfl ?_
    refine O_y hs (Y_pickF rfl rfl ?_)
    refine O_a rfl ?_
    refine O_nil (T_kp [0, 1, 19] rfl ?_)
    refine T_condF rfl (T_seq (T_region rfl ?_))
    refine O_m rfl ?_
    refine O_y hs (Y_cmpS rfl rfl rfl (fun h28 => ?_) (fun h28 => ?_))
    ·
     dsimp only [cmpP] at h28
     refine O_a rfl ?_
     refine O_nil (T_kp [0, 1, 26] rfl ?_)
     refine T_condT rfl (T_seq (T_region rfl ?_))
     refine O_m rfl ?_
     refine O_s (S_call (H1 := []) hs rfl Tryz.func61 rfl (by kernel_rfl) (itoa_ok (n := a) (by omega)) fun v22 G' H' _ hR hG30 hs => ?_)
     obtain ⟨rfl, rfl⟩ := hR
     replace hs : St _ _ [] _ := hs
     refine O_y hs (Y_cat rfl rfl (by have h9 := digT_len a; simp only [List.length_append, List.length_cons, List.length_nil]; omega) ?_)
     refine O_y hs (Y_cat rfl rfl (by have h9 := digT_len a; simp only [List.length_append, List.length_cons, List.length_nil]; omega) ?_)
     refine O_a rfl ?_
     refine O_nil (T_kp [4] rfl ?_)
     refine T_ret ?_
     refine Rt_fin (vs := [_]) Tryz.results40 rfl ⟨rfl, trivial⟩ ?_
     try dsimp only [tup]
     exact ⟨_, [], hs.done, rfl, by unfold sufT; rw [if_neg (by omega), if_neg (by omega), if_neg (by omega), if_pos (by omega)]; simp⟩
    ·
     dsimp only [cmpP] at h28
     refine O_a rfl ?_
     refine O_nil (T_kp [0, 1, 26] rfl ?_)
     refine T_condF rfl (T_skip ?_)
     refine T_seq (T_region rfl ?_)
     refine O_m rfl ?_
     obtain ⟨b, rfl⟩ : ∃ b : Nat, mx = (b : Int) := Int.eq_ofNat_of_zero_le (by omega)
     refine O_s (S_call (H1 := []) hs rfl Tryz.func61 rfl (by kernel_rfl) (itoa_ok (n := a) (by omega)) fun v23 G' H' _ hR hG34 hs => ?_)
     obtain ⟨rfl, rfl⟩ := hR
     replace hs : St _ _ [] _ := hs
     refine O_y hs (Y_cat rfl rfl (by have h9 := digT_len a; simp only [List.length_append, List.length_cons, List.length_nil]; omega) ?_)
     refine O_y hs (Y_cat rfl rfl (by have h9 := digT_len a; simp only [List.length_append, List.length_cons, List.length_nil]; omega) ?_)
     refine O_m rfl ?_
     refine O_s (S_call (H1 := []) hs rfl Tryz.func61 rfl (by kernel_rfl) (itoa_ok (n := b) (by omega)) fun v24 G' H' _ hR hG38 hs => ?_)
     obtain ⟨rfl, rfl⟩ := hR
     replace hs : St _ _ [] _ := hs
     refine O_y hs (Y_cat rfl rfl (by have h9 := digT_len a; have h8 := digT_len b; simp only [List.length_append, List.length_cons, List.length_nil]; omega) ?_)
     refine O_y hs (Y_cat rfl rfl (by have h9 := digT_len a; have h8 := digT_len b; simp only [List.length_append, List.length_cons, List.length_nil]; omega) ?_)
     refine O_a rfl ?_
     refine O_nil (T_kp [4] rfl ?_)
     refine T_ret ?_
     refine Rt_fin (vs := [_]) Tryz.results40 rfl ⟨rfl, trivial⟩ ?_
     try dsimp only [tup]
     exact ⟨_, [], hs.done, rfl, by unfold sufT; rw [if_neg (by omega), if_neg (by omega), if_neg (by omega), if_neg (by omega)]; simp⟩

set_option maxHeartbeats 400000 in
set_option maxRecDepth 10000 in
theorem pow2_ok {G : Ghost} :
  FnOk Tryz.prog 121 [.int .i64 16] G [] fun r _ H' => H' = [] ∧ r = .bool true := by
 refine FnOk.of_T [(0, _)] Tryz.func121 rfl Tryz.ntmps121 (by simp) rfl fun w0 hs => ?_
 refine T_seq (T_region rfl ?_)
 refine O_a rfl ?_
 refine O_nil (T_kp [0] rfl ?_)
 refine T_seq (T_region rfl ?_)
 refine O_m rfl ?_
 refine O_m rfl ?_
 refine O_y hs (Y_sub (c := (15)) rfl rfl (by decide) (by decide) ?_)
 refine O_y hs (Y_bits (c := 0) rfl rfl (by simp) (by decide) ?_)
 refine O_y hs (Y_cmpT rfl rfl rfl (by decide) ?_)
 refine O_a rfl ?_
 refine O_nil (T_kp [2] rfl ?_)
 refine T_ret ?_
 refine Rt_fin (vs := [_]) Tryz.results121 rfl ⟨rfl, trivial⟩ ?_
 try dsimp only [tup]
 exact ⟨_, [], hs.done, rfl, rfl⟩

set_option maxHeartbeats 400000 in
set_option maxRecDepth 10000 in
theorem tzu_ok {G : Ghost} (hT : Tab G) :
  FnOk Tryz.prog 122 [u64V 16] G [] fun r _ H' => H' = [] ∧ r = .int .i64 4 := by
 refine FnOk.of_T [(0, _)] Tryz.func122 rfl Tryz.ntmps122 (by simp) rfl fun w0 hs => ?_
 have hT0 := hT
 refine T_seq (T_region rfl ?_)
 refine O_a rfl ?_
 refine O_nil (T_kp [0] rfl ?_)
 refine T_seq (T_condF rfl (T_skip ?_))
 refine T_seq (T_region rfl ?_)
 refine O_m rfl ?_
 refine O_s (S_call (H1 := []) hs rfl Tryz.func94 rfl (by kernel_rfl) (tz_ok (x := 16) hT) fun v1 G' H' _ hR hG7 hs => ?_)
 obtain ⟨rfl, rfl⟩ := hR
 replace hs : St _ _ [] _ := hs
 replace hT := hT.mono hG7
 refine O_a rfl ?_
 refine O_nil (T_kp [2] rfl ?_)
 refine T_ret ?_
 refine Rt_fin (vs := [_]) Tryz.results122 rfl ⟨rfl, trivial⟩ ?_
 try dsimp only [tup]
 exact ⟨_, [], hs.done, rfl, congrArg (fun n : Nat => Value.int .i64 (n : Int)) (by decide : tzF 16 = 4)⟩

def dgN (k : Nat) (b : UInt8) : Nat := match k with | 0 => b.toNat % 16 | 1 => b.toNat / 16 | _ => 1
def dgU (k : Nat) (b : UInt8) : UInt8 := match k with | 0 => lowHex (b.toNat % 16) | 1 => lowHex (b.toNat / 16) | _ => 49
theorem dg_at (k : Nat) (b : UInt8) : (⟨#[48, 49, 50, 51, 52, 53, 54, 55, 56, 57, 97, 98, 99, 100, 101, 102, 103, 104, 105, 106, 107, 108, 109, 110, 111, 112, 113, 114, 115, 116, 117, 118, 119, 120, 121, 122]⟩ : ByteArray)[dgN k b]? = some (dgU k b) := by
  refine str_at (s := [48, 49, 50, 51, 52, 53, 54, 55, 56, 57, 97, 98, 99, 100, 101, 102, 103, 104, 105, 106, 107, 108, 109, 110, 111, 112, 113, 114, 115, 116, 117, 118, 119, 120, 121, 122]) ?_
  have h16 : ∀ n : Fin 16, ([48, 49, 50, 51, 52, 53, 54, 55, 56, 57, 97, 98, 99, 100, 101, 102, 103, 104, 105, 106, 107, 108, 109, 110, 111, 112, 113, 114, 115, 116, 117, 118, 119, 120, 121, 122] : List UInt8)[n.val]? = some (lowHex n.val) := by decide
  have hb := b.toNat_lt
  match k with
  | 0 => exact h16 ⟨b.toNat % 16, by omega⟩
  | 1 => exact h16 ⟨b.toNat / 16, by omega⟩
  | k + 2 => rfl
theorem and15 (n : Nat) (h : n < 100000) : and64 n (sub64 16 1) = n % 16 := by
  have e : sub64 16 1 = 2 ^ 4 - 1 := by decide
  rw [e]; unfold and64
  rw [Nat.mod_eq_of_lt (by unfold W64; omega), Nat.mod_eq_of_lt (by decide), Nat.and_two_pow_sub_one_eq_mod]
theorem shr16 (n : Nat) : n / 2 ^ 4 = n / 16 := rfl
def dgW (k : Nat) (b : UInt8) : Nat := match k with | 0 => and64 (256 + b.toNat) (sub64 16 1) | 1 => and64 ((256 + b.toNat) / 2 ^ 4) (sub64 16 1) | _ => (256 + b.toNat) / 2 ^ 4 / 2 ^ 4
theorem dg_int (k : Nat) (b : UInt8) : ((dgW k b : Nat) : Int) = ((dgN k b : Nat) : Int) := by
  have hb := b.toNat_lt
  match k with
  | 0 => show ((and64 (256 + b.toNat) (sub64 16 1) : Nat) : Int) = ((b.toNat % 16 : Nat) : Int); rw [and15 _ (by omega)]; omega
  | 1 => show ((and64 ((256 + b.toNat) / 2 ^ 4) (sub64 16 1) : Nat) : Int) = ((b.toNat / 16 : Nat) : Int); rw [and15 _ (by omega)]; omega
  | k + 2 => show (((256 + b.toNat) / 2 ^ 4 / 2 ^ 4 : Nat) : Int) = 1; omega


set_option maxHeartbeats 1000000 in
set_option maxRecDepth 10000 in
theorem fbit_ok {G : Ghost} {b : UInt8} (hT : Tab G) :
  FnOk Tryz.prog 107 [.slice none 0 0, u64V (256 + b.toNat), .int .i64 16, .bool false, .bool false] G [] fun r _ H' => H' = [] ∧ r = .tuple #[.slice none 0 0, .string ⟨[49, lowHex (b.toNat / 16), lowHex (b.toNat % 16)].toArray⟩] := by
 have hb := b.toNat_lt
 refine FnOk.of_T [(0, _), (1, _), (2, _), (3, _), (4, _)] Tryz.func107 rfl Tryz.ntmps107 (by simp) rfl fun w0 hs => ?_
 have hT0 := hT
 refine T_seq (T_region rfl ?_)
 refine O_a rfl ?_
 refine O_a rfl ?_
 refine O_nil (T_kp [0, 1, 2, 3, 4, 10, 11] rfl ?_)
 refine T_seq (T_seq (T_region rfl ?_))
 refine O_m rfl ?_
 refine O_y hs (Y_cmpF rfl rfl rfl (by decide) ?_)
 refine O_m rfl ?_
 refine O_yy 21 hs rfl rfl (Y_move rfl ?_)
 refine O_yy 21 hs rfl rfl (Y_cmpF rfl rfl rfl (by decide) ?_)
 refine O_y hs (Y_pickF rfl rfl ?_)
 refine O_m rfl ?_
 refine O_yy 25 hs rfl rfl (Y_move rfl ?_)
 refine O_yy 25 hs rfl rfl (Y_cmpF rfl rfl rfl (by decide) ?_)
 refine O_y hs (Y_pickF rfl rfl ?_)
 refine O_nil (T_kp [0, 1, 2, 3, 4, 10, 11, 28] rfl ?_)
 refine T_condF rfl (T_skip ?_)
 refine T_seq (T_region rfl ?_)
 refine O_s (S_alloc hs Tryz.zeroValue140 (cs := (List.replicate 65 (Value.int .u8 0))) rfl fun b12 _ hs => ?_)
 refine O_nil (T_kp [0, 1, 2, 3, 4, 10, 11, 12] rfl ?_)
 refine T_seq (T_region rfl ?_)
 refine O_a rfl ?_
 refine O_nil (T_kp [0, 1, 2, 3, 4, 10, 11, 12, 13] rfl ?_)
 refine T_seq (T_seq (T_region rfl ?_))
 refine O_m rfl ?_
 refine O_nil (T_kp [0, 1, 2, 3, 4, 10, 11, 12, 13, 30] rfl ?_)
 refine T_condF rfl (T_skip ?_)
 refine T_seq (T_seq (T_region rfl ?_))
 refine O_m rfl ?_
 refine O_s (S_call (H1 := []) hs rfl Tryz.func121 rfl (by kernel_rfl) (pow2_ok) fun v1 G' H' _ hR hG34 hs => ?_)
 obtain ⟨rfl, rfl⟩ := hR
 replace hs : St _ _ [_] _ := hs
 replace hT := hT.mono hG34
 refine O_nil (T_kp [0, 1, 2, 3, 4, 10, 11, 12, 13, 34] rfl ?_)
 refine T_condT rfl (T_seq (T_region rfl ?_))
 refine O_m rfl ?_
 refine O_y hs (Y_conv Tryz.underlying3 Tryz.underlying129 (c := 16) rfl (by decide) ?_)
 refine O_s (S_call (H1 := []) hs rfl Tryz.func122 rfl (by kernel_rfl) (tzu_ok hT) fun v2 G' H' _ hR hG37 hs => ?_)
 obtain ⟨rfl, rfl⟩ := hR
 replace hs : St _ _ [_] _ := hs
 replace hT := hT.mono hG37
 refine O_y hs (Y_conv Tryz.underlying3 Tryz.underlying129 (c := 4) rfl (by decide) ?_)
 refine O_a rfl ?_
 refine O_nil (T_kp [0, 1, 2, 3, 4, 10, 11, 12, 13, 14] rfl ?_)
 refine T_seq (T_region rfl ?_)
 refine O_m rfl ?_
 refine O_y hs (Y_conv Tryz.underlying3 Tryz.underlying38 (c := 16) rfl (by decide) ?_)
 refine O_a rfl ?_
 refine O_nil (T_kp [0, 1, 2, 3, 4, 10, 11, 12, 13, 14, 15] rfl ?_)
 refine T_seq (T_region rfl ?_)
 refine O_m rfl ?_
 refine O_y hs (Y_conv Tryz.underlying3 Tryz.underlying129 (c := 16) rfl (by decide) ?_)
 refine O_y hs (Y_sub64 (a := 16) (b := 1) rfl rfl ?_)
 refine O_a rfl ?_
 refine O_nil (T_kp [0, 1, 3, 4, 10, 11, 12, 13, 14, 15, 16] rfl ?_)
 refine T_seq (T_block (T_loopN 3 (L := [(0, _), (1, _), (3, _), (4, _), (10, _), (11, _), (12, _), (13, _), (14, _), (15, _), (16, _)]) ⟨rfl, rfl, rfl, rfl, rfl, rfl, rfl, rfl, rfl, rfl, rfl, trivial⟩ (U_go ?_)))
 refine T_seq (T_seq (T_region rfl ?_))
 refine O_m rfl ?_
 refine O_m rfl ?_
 refine O_y hs (Y_cmpT rfl rfl rfl (by show (16 : Int) ≤ _; omega) ?_)
 refine O_nil (T_kp [0, 1, 3, 4, 10, 11, 12, 13, 14, 15, 16, 46] rfl ?_)
 refine T_condT rfl (T_skip ?_)
 refine T_block (T_seq (T_region rfl ?_))
 refine O_m rfl ?_
 refine O_y hs (Y_sub (c := (64)) rfl rfl (by decide) (by decide) ?_)
 refine O_a rfl ?_
 refine O_nil (T_kp [0, 1, 3, 4, 10, 11, 12, 13, 14, 15, 16] rfl ?_)
 refine T_seq (T_region rfl ?_)
 refine O_m rfl ?_
 refine O_m rfl ?_
 refine O_m rfl ?_
 refine O_y hs (Y_and64 rfl rfl ?_)
 refine O_y hs (Y_idxStr (b := dgU 0 b) (dgN 0 b) Tryz.underlying9 rfl rfl (dg_int 0 b) (dg_at 0 b) ?_)
 refine O_y hs (Y_idxArr' 64 Tryz.underlying140 Tryz.sizeOf5 rfl rfl rfl (by decide) ?_)
 refine O_n (S_st hs Tryz.sizeOf5 rfl rfl rfl (by simp) rfl fun _ hs => ?_)
 refine O_nil (T_kp [0, 1, 3, 4, 10, 11, 12, 13, 14, 15, 16] rfl ?_)
 refine T_region rfl ?_
 refine O_m rfl ?_
 refine O_m rfl ?_
 refine O_y hs (Y_shr64 4 (by decide) rfl rfl ?_)
 refine O_a rfl ?_
 refine O_nil ⟨[(0, _), (1, _), (3, _), (4, _), (10, _), (11, _), (12, _), (13, _), (14, _), (15, _), (16, _)], ⟨rfl, rfl, rfl, rfl, rfl, rfl, rfl, rfl, rfl, rfl, rfl, trivial⟩, U_go ?_⟩
 refine T_seq (T_seq (T_region rfl ?_))
 refine O_m rfl ?_
 refine O_m rfl ?_
 refine O_y hs (Y_cmpT rfl rfl rfl (by show (16 : Int) ≤ _; omega) ?_)
 refine O_nil (T_kp [0, 1, 3, 4, 10, 11, 12, 13, 14, 15, 16, 46] rfl ?_)
 refine T_condT rfl (T_skip ?_)
 refine T_block (T_seq (T_region rfl ?_))
 refine O_m rfl ?_
 refine O_y hs (Y_sub (c := (63)) rfl rfl (by decide) (by decide) ?_)
 refine O_a rfl ?_
 refine O_nil (T_kp [0, 1, 3, 4, 10, 11, 12, 13, 14, 15, 16] rfl ?_)
 refine T_seq (T_region rfl ?_)
 refine O_m rfl ?_
 refine O_m rfl ?_
 refine O_m rfl ?_
 refine O_y hs (Y_and64 rfl rfl ?_)
 refine O_y hs (Y_idxStr (b := dgU 1 b) (dgN 1 b) Tryz.underlying9 rfl rfl (dg_int 1 b) (dg_at 1 b) ?_)
 refine O_y hs (Y_idxArr' 63 Tryz.underlying140 Tryz.sizeOf5 rfl rfl rfl (by decide) ?_)
 refine O_n (S_st hs Tryz.sizeOf5 rfl rfl rfl (by simp) rfl fun _ hs => ?_)
 refine O_nil (T_kp [0, 1, 3, 4, 10, 11, 12, 13, 14, 15, 16] rfl ?_)
 refine T_region rfl ?_
 refine O_m rfl ?_
 refine O_m rfl ?_
 refine O_y hs (Y_shr64 4 (by decide) rfl rfl ?_)
 refine O_a rfl ?_
 refine O_nil ⟨[(0, _), (1, _), (3, _), (4, _), (10, _), (11, _), (12, _), (13, _), (14, _), (15, _), (16, _)], ⟨rfl, rfl, rfl, rfl, rfl, rfl, rfl, rfl, rfl, rfl, rfl, trivial⟩, U_go ?_⟩
 refine T_seq (T_seq (T_region rfl ?_))
 refine O_m rfl ?_
 refine O_m rfl ?_
 refine O_y hs (Y_cmpF rfl rfl rfl (by show ¬ ((16 : Int) ≤ _); omega) ?_)
 refine O_nil (T_kp [0, 1, 3, 4, 10, 11, 12, 13, 14, 15, 16, 46] rfl ?_)
 refine T_condF rfl (T_exit ?_)
 refine T_seq (T_region rfl ?_)
 refine O_m rfl ?_
 refine O_y hs (Y_sub (c := (62)) rfl rfl (by decide) (by decide) ?_)
 refine O_a rfl ?_
 refine O_nil (T_kp [0, 1, 3, 4, 10, 11, 12, 13] rfl ?_)
 refine T_region rfl ?_
 refine O_m rfl ?_
 refine O_m rfl ?_
 refine O_y hs (Y_idxStr (b := dgU 2 b) (dgN 2 b) Tryz.underlying9 rfl rfl (dg_int 2 b) (dg_at 2 b) ?_)
 refine O_y hs (Y_idxArr' 62 Tryz.underlying140 Tryz.sizeOf5 rfl rfl rfl (by decide) ?_)
 refine O_n (S_st hs Tryz.sizeOf5 rfl rfl rfl (by simp) rfl fun _ hs => ?_)
 refine O_nil (T_kp [0, 3, 4, 10, 11, 12, 13] rfl ?_)
 refine T_seq (T_seq (T_region rfl ?_))
 refine O_m rfl ?_
 refine O_nil (T_kp [0, 4, 10, 11, 12, 13, 89] rfl ?_)
 refine T_condF rfl (T_skip ?_)
 refine T_seq (T_seq (T_region rfl ?_))
 refine O_m rfl ?_
 refine O_nil (T_kp [0, 10, 11, 12, 13, 94] rfl ?_)
 refine T_condF rfl (T_skip ?_)
 obtain ⟨_, hG30, hf, hs⟩ := hs.fixBlk (fun k _ => noMb k)
 refine T_seq (T_region rfl ?_)
 refine O_m rfl ?_
 refine O_y hs (Y_sliceArr (cs := ((((List.replicate 65 (Value.int .u8 0)).set 64 (.int .u8 ((dgU 0 b).toNat : Int))).set 63 (.int .u8 ((dgU 1 b).toNat : Int))).set 62 (.int .u8 ((dgU 2 b).toNat : Int)))) 62 Tryz.underlying140 Tryz.sizeOf5 rfl rfl (by decide) (by decide) (by simp) hf fun s100 hs100 => ?_)
 refine O_y hs (Y_str Tryz.underlying30 Tryz.underlying5 Tryz.underlying9 rfl (show Bytes _ s100 [49, lowHex (b.toNat / 16), lowHex (b.toNat % 16)] from hs100) ?_)
 refine O_a rfl ?_
 refine O_nil (T_kp [10, 11] rfl ?_)
 refine T_ret ?_
 refine Rt_fin (vs := [_, _]) Tryz.results107 rfl ⟨rfl, rfl, trivial⟩ ?_
 try dsimp only [tup]
 exact ⟨_, [], hs.done, rfl, rfl⟩

set_option maxHeartbeats 400000 in
set_option maxRecDepth 10000 in
theorem fmt2_ok {G : Ghost} {b : UInt8} (hT : Tab G) :
  FnOk Tryz.prog 96 [.int .i64 ((256 + b.toNat : Nat) : Int), .int .i64 16] G [] fun r _ H' => H' = [] ∧ r = .string ⟨[49, lowHex (b.toNat / 16), lowHex (b.toNat % 16)].toArray⟩ := by
 have hb := b.toNat_lt
 refine FnOk.of_T [(0, _), (1, _)] Tryz.func96 rfl Tryz.ntmps96 (by simp) rfl fun w0 hs => ?_
 have hT0 := hT
 refine T_seq (T_region rfl ?_)
 refine O_a rfl ?_
 refine O_nil (T_kp [0, 1] rfl ?_)
 refine T_seq (T_seq (T_region rfl ?_))
 refine O_m rfl ?_
 refine O_y hs (Y_cmpF rfl rfl rfl (by decide) ?_)
 refine O_nil (T_kp [0, 1, 11] rfl ?_)
 refine T_condF rfl (T_skip ?_)
 refine T_seq (T_region rfl ?_)
 refine O_m rfl ?_
 refine O_y hs (Y_conv Tryz.underlying2 Tryz.underlying38 (c := ((256 + b.toNat : Nat) : Int)) rfl (by rw [IntKind.wrap_u64]; omega) ?_)
 refine O_m rfl ?_
 refine O_m rfl ?_
 refine O_y hs (Y_cmpF rfl rfl rfl (by omega) ?_)
 refine O_s (S_call (H1 := []) hs rfl Tryz.func107 rfl (by kernel_rfl) (fbit_ok hT) fun v1 G' H' _ hR hG50 hs => ?_)
 obtain ⟨rfl, rfl⟩ := hR
 replace hs : St _ _ [] _ := hs
 replace hT := hT.mono hG50
 refine O_m rfl ?_
 refine O_y hs (Y_extract rfl rfl ?_)
 refine O_y hs (Y_extract rfl rfl ?_)
 refine O_a rfl ?_
 refine O_a rfl ?_
 refine O_nil (T_kp [9] rfl ?_)
 refine T_seq (T_region rfl ?_)
 refine O_m rfl ?_
 refine O_a rfl ?_
 refine O_nil (T_kp [4] rfl ?_)
 refine T_ret ?_
 refine Rt_fin (vs := [_]) Tryz.results96 rfl ⟨rfl, trivial⟩ ?_
 try dsimp only [tup]
 exact ⟨_, [], hs.done, rfl, rfl⟩

set_option maxHeartbeats 400000 in
set_option maxRecDepth 10000 in
theorem fmt1_ok {G : Ghost} {b : UInt8} (hT : Tab G) :
  FnOk Tryz.prog 78 [.int .i64 ((256 + b.toNat : Nat) : Int), .int .i64 16] G [] fun r _ H' => H' = [] ∧ r = .string ⟨[49, lowHex (b.toNat / 16), lowHex (b.toNat % 16)].toArray⟩ := by
 have hb := b.toNat_lt
 refine FnOk.of_T [(0, _), (1, _)] Tryz.func78 rfl Tryz.ntmps78 (by simp) rfl fun w0 hs => ?_
 have hT0 := hT
 refine T_seq (T_region rfl ?_)
 refine O_a rfl ?_
 refine O_nil (T_kp [0, 1] rfl ?_)
 refine T_seq (T_region rfl ?_)
 refine O_m rfl ?_
 refine O_m rfl ?_
 refine O_s (S_call (H1 := []) hs rfl Tryz.func96 rfl (by kernel_rfl) (fmt2_ok hT) fun v1 G' H' _ hR hG7 hs => ?_)
 obtain ⟨rfl, rfl⟩ := hR
 replace hs : St _ _ [] _ := hs
 replace hT := hT.mono hG7
 refine O_a rfl ?_
 refine O_nil (T_kp [4] rfl ?_)
 refine T_ret ?_
 refine Rt_fin (vs := [_]) Tryz.results78 rfl ⟨rfl, trivial⟩ ?_
 try dsimp only [tup]
 exact ⟨_, [], hs.done, rfl, rfl⟩

set_option maxHeartbeats 400000 in
set_option maxRecDepth 10000 in
theorem ctxt_ok {G : Ghost} {b : UInt8} (hT : Tab G) :
  FnOk Tryz.prog 57 [.int .u8 (b.toNat : Int)] G [] fun r _ H' => H' = [] ∧ r = .string ⟨(charT b).toArray⟩ := by
 have hb := b.toNat_lt
 refine FnOk.of_T [(0, _)] Tryz.func57 rfl Tryz.ntmps57 (by simp) rfl fun w0 hs => ?_
 have hT0 := hT
 refine T_seq (T_region rfl ?_)
 refine O_a rfl ?_
 refine O_nil (T_kp [0] rfl ?_)
 refine T_seq (T_seq (T_region rfl ?_))
 refine O_m rfl ?_
 refine O_s (S_call (H1 := []) hs rfl Tryz.func77 rfl (by kernel_rfl) (plain_ok (x := b)) fun v1 G' H' _ hR hG4 hs => ?_)
 obtain ⟨rfl, rfl⟩ := hR
 replace hs : St _ _ [] _ := hs
 replace hT := hT.mono hG4
 cases h4 : plainB b
 ·
  refine O_nil (T_kp [0, 4] rfl ?_)
  refine T_condF rfl (T_skip ?_)
  refine T_seq (T_region rfl ?_)
  refine O_m rfl ?_
  refine O_y hs (Y_conv Tryz.underlying5 Tryz.underlying2 (c := (b.toNat : Int)) rfl (by rw [IntKind.wrap_i64]; omega) ?_)
  refine O_y hs (Y_add (c := ((256 + b.toNat : Nat) : Int)) rfl rfl (by omega) (by omega) ?_)
  refine O_s (S_call (H1 := []) hs rfl Tryz.func78 rfl (by kernel_rfl) (fmt1_ok hT) fun v2 G' H' _ hR hG11 hs => ?_)
  obtain ⟨rfl, rfl⟩ := hR
  replace hs : St _ _ [] _ := hs
  replace hT := hT.mono hG11
  refine O_y hs (Y_sliceStr 1 3 Tryz.underlying9 rfl ⟨_, _, rfl, rfl⟩ rfl (by decide) (by simp) ?_)
  refine O_y hs (Y_cat rfl rfl (by simp) ?_)
  refine O_a rfl ?_
  refine O_nil (T_kp [2] rfl ?_)
  refine T_ret ?_
  refine Rt_fin (vs := [_]) Tryz.results57 rfl ⟨rfl, trivial⟩ ?_
  try dsimp only [tup]
  exact ⟨_, [], hs.done, rfl, by unfold charT; rw [if_neg (by rw [h4]; simp)]; rfl⟩
 ·
  refine O_nil (T_kp [0, 4] rfl ?_)
  refine T_condT rfl (T_seq (T_region rfl ?_))
  refine O_m rfl ?_
  refine O_s (S_lit hs Tryz.underlying30 Tryz.sizeOf5 Tryz.zeroValue5 rfl rfl (by decide) (by decide) rfl (cs := [_]) rfl rfl fun v3 _ hs _ => ?_)
  obtain ⟨_, hG6, hl6, hs⟩ := hs.fixRow noM
  replace hT := hT.mono hG6
  refine O_y hs (Y_str Tryz.underlying30 Tryz.underlying5 Tryz.underlying9 rfl (show Bytes _ _ [b] from hl6) ?_)
  refine O_a rfl ?_
  refine O_nil (T_kp [2] rfl ?_)
  refine T_ret ?_
  refine Rt_fin (vs := [_]) Tryz.results57 rfl ⟨rfl, trivial⟩ ?_
  try dsimp only [tup]
  exact ⟨_, [], hs.done, rfl, by unfold charT; rw [if_pos h4]⟩

set_option maxHeartbeats 1000000 in
set_option maxRecDepth 10000 in
theorem cltx_ok {G : Ghost} {c : List Nat} (hc : ClsOk c) (hT : Tab G) :
  FnOk Tryz.prog 39 [ClsV c] G [] fun r _ H' => H' = [] ∧ r = .string ⟨(classT (bytesF c)).toArray⟩ := by
 have hbl := bytesF_len hc.1 hc.2
 have hc1 := hc.1
 refine FnOk.of_T [(0, _)] Tryz.func39 rfl Tryz.ntmps39 (by simp) rfl fun w0 hs => ?_
 have hT0 := hT
 refine T_seq (T_region rfl ?_)
 refine O_s (S_box hs rfl (cs := (List.map u64V c)) rfl fun b1 _ hs => ?_)
 refine O_a rfl ?_
 refine O_nil (T_kp [1] rfl ?_)
 refine T_seq (T_region rfl ?_)
 refine O_y hs (Y_ldW 0 Tryz.isAgg40 Tryz.sizeOf40 rfl rfl (by first | omega | (simp; omega) | simp) ?_)
 refine O_s (S_call (H1 := []) hs rfl Tryz.func56 rfl (by kernel_rfl) (bytes_ok hc.1 hc.2 hT) fun v1 G' H' _ hR hG7 hs => ?_)
 obtain ⟨rfl, hb⟩ := hR
 obtain ⟨A7, c7, rfl, _⟩ := id hb
 replace hs : St _ _ [_] _ := hs
 replace hT := hT.mono hG7
 refine O_a rfl ?_
 refine O_nil (T_kp [3] rfl ?_)
 refine T_seq (T_seq (T_region rfl ?_))
 refine O_m rfl ?_
 refine O_y hs (Y_len Tryz.underlying30 rfl ?_)
 refine O_nil (T_kp [3, 9] rfl ?_)
 refine T_block (T_seq (T_region rfl ?_))
 refine O_y hs (Y_cmpS rfl rfl rfl (fun h11 => ?_) (fun h11 => ?_))
 ·
  dsimp only [cmpP] at h11
  refine O_a rfl ?_
  refine O_nil (T_kp [3, 9, 10] rfl ?_)
  refine T_condT rfl (T_seq (T_region rfl ?_))
  refine O_m rfl ?_
  refine O_y hs (Y_idxB hb 0 Tryz.underlying30 Tryz.sizeOf5 rfl rfl rfl (by omega) fun p13 hp13 => ?_)
  refine O_y hs (Y_ldG Tryz.isAgg5 rfl (hp13) ?_)
  refine O_s (S_call (H1 := []) hs rfl Tryz.func57 rfl (by kernel_rfl) (ctxt_ok (b := (bytesF c)[0]) hT) fun v2 G' H' _ hR hG15 hs => ?_)
  obtain ⟨rfl, rfl⟩ := hR
  replace hs : St _ _ [_] _ := hs
  replace hT := hT.mono hG15
  replace hb := hb.mono hG15
  refine O_a rfl ?_
  refine O_nil (T_kp [2] rfl ?_)
  refine T_ret ?_
  refine Rt_fin (vs := [_]) Tryz.results39 rfl ⟨rfl, trivial⟩ ?_
  try dsimp only [tup]
  exact ⟨_, [], hs.done, rfl, by unfold classT; rw [if_pos (by omega)]; rw [headD_at (by omega)]⟩
 ·
  dsimp only [cmpP] at h11
  refine O_a rfl ?_
  refine O_nil (T_kp [3, 9, 10] rfl ?_)
  refine T_condF rfl (T_seq (T_region rfl ?_))
  refine O_y hs (Y_cmpS rfl rfl rfl (fun h17 => ?_) (fun h17 => ?_))
  ·
   dsimp only [cmpP] at h17
   refine O_a rfl ?_
   refine O_nil (T_kp [3, 16] rfl ?_)
   refine T_condT rfl (T_seq (T_region rfl ?_))
   refine O_a rfl ?_
   refine O_nil (T_kp [2] rfl ?_)
   refine T_ret ?_
   refine Rt_fin (vs := [_]) Tryz.results39 rfl ⟨rfl, trivial⟩ ?_
   try dsimp only [tup]
   exact ⟨_, [], hs.done, rfl, by unfold classT; rw [if_neg (by omega), if_pos (by omega)]⟩
  ·
   dsimp only [cmpP] at h17
   refine O_a rfl ?_
   refine O_nil (T_kp [3, 16] rfl ?_)
   refine T_condF rfl (T_skip ?_)
   refine T_seq (T_region rfl ?_)
   refine O_s (S_alloc hs Tryz.zeroValue90 (cs := [_, _]) rfl fun b4 _ hs => ?_)
   refine O_nil (T_kp [3, 4] rfl ?_)
   have hs := hs.nilRow 5 1
   refine T_seq (T_region rfl ?_)
   have hs := hs.f1
   refine O_s (S_call (H1 := [_, _]) hs rfl Tryz.func58 rfl (by kernel_rfl) (wby_ok (l := ([] : List UInt8)) (.inl rfl) (c := 91) (by first | (simp only [List.length_append, List.length_cons, List.length_nil]; omega) | omega)) fun v3 G' H' _ hR hG18 hs => ?_)
   obtain ⟨w18, rfl, rfl⟩ := hR
   replace hs : St _ _ [_, _, _] _ := hs
   replace hT := hT.mono hG18
   replace hb := hb.mono hG18
   refine O_nil (T_kp [3, 4] rfl ?_)
   refine T_seq (T_block (T_loop (fun m E w => ∃ (f : Nat) (l rest : List UInt8) (A3 : Option Addr) (c3 : Nat) (v1 : Value) (G' : Ghost), rest.length ≤ f ∧ f ≤ 256 ∧ 91 :: runsT (bytesF c).length (bytesF c) = l ++ runsT f rest ∧ Bytes G' (.slice A3 rest.length c3) rest ∧ m = rest.length ∧ E = ⟨[], [(3, .slice A3 rest.length c3), (4, .pointer (some ⟨b4, 0, none⟩))]⟩ ∧ St ⟨w0, G, feet []⟩ G' [.blk b4 90 [.pointer (some ⟨b4, 0, none⟩), v1], .row 5 1 v1 l.length (l.map byteV), .blk b1 40 (List.map u64V c)] w) (L := [(3, _), (4, _)]) ⟨rfl, rfl, trivial⟩ (⟨(bytesF c).length, _, bytesF c, A7, c7, w18, _, Nat.le_refl _, hbl, rfl, hb, rfl, rfl, hs⟩) fun m E w hI => ?_))
   obtain ⟨f, l, rest, A3, c3, v1, G', hrf, hf256, hrun, hb3, rfl, rfl, hs⟩ := hI
   have hT := hT0.mono hs.le
   have hll := congrArg List.length hrun
   have h8 := runsT_len (bytesF c).length (bytesF c)
   simp only [List.length_append, List.length_cons] at hll
   refine T_seq (T_seq (T_region rfl ?_))
   refine O_m rfl ?_
   refine O_y hs (Y_len Tryz.underlying30 rfl ?_)
   refine O_y hs (Y_cmpS rfl rfl rfl (fun h21 => ?_) (fun h21 => ?_))
   ·
    dsimp only [cmpP] at h21
    refine O_nil (T_kp [3, 4, 21] rfl ?_)
    refine T_condT rfl (T_skip ?_)
    have h0 : 0 < rest.length := by omega
    obtain ⟨f1, rfl⟩ : ∃ k, f = k + 1 := ⟨f - 1, by omega⟩
    have hc4 := charT_len rest[0]
    refine T_block (T_seq (T_region rfl ?_))
    refine O_a rfl ?_
    refine O_nil (T_kp [3, 4, 5] rfl ?_)
    refine T_seq (T_block (T_loop (fun m E w => ∃ (j : Nat) (G' : Ghost), 1 ≤ j ∧ j ≤ runL rest + 1 ∧ Bytes G' (.slice A3 rest.length c3) rest ∧ m = rest.length - j ∧ E = ⟨[], [(3, .slice A3 rest.length c3), (4, .pointer (some ⟨b4, 0, none⟩)), (5, .int .i64 (j : Int))]⟩ ∧ St ⟨w0, G, feet []⟩ G' [.blk b4 90 [.pointer (some ⟨b4, 0, none⟩), v1], .row 5 1 v1 l.length (l.map byteV), .blk b1 40 (List.map u64V c)] w) (L := [(3, _), (4, _), (5, _)]) ⟨rfl, rfl, rfl, trivial⟩ (⟨1, _, Nat.le_refl _, by omega, hb3, rfl, rfl, hs⟩) fun m E w hI => ?_))
    obtain ⟨j, G', hj1, hj2, hb3, rfl, rfl, hs⟩ := hI
    have hT := hT0.mono hs.le
    refine T_seq (T_seq (T_drawS [0, 1, 2, 3, 4, 5, 6, 7, 8, 9, 10, 11, 12, 13, 14, 15, 16] hs (by kernel_rfl) ?_))
    replace hs := hs.drew
    refine A_take 0 rfl (by kernel_rfl) rfl hs (Y_move rfl ?_)
    refine A_take 1 rfl (by kernel_rfl) rfl hs (Y_move rfl ?_)
    refine A_take 2 rfl (by kernel_rfl) rfl hs (Y_len Tryz.underlying30 rfl ?_)
    refine A_take 3 rfl (by kernel_rfl) rfl hs (Y_cmpS rfl rfl rfl (fun h25 => ?_) (fun h25 => ?_))
    ·
     dsimp only [cmpP] at h25
     refine A_take 4 rfl (by kernel_rfl) rfl hs (Y_move rfl ?_)
     refine A_take 5 rfl (by kernel_rfl) rfl hs (Y_move rfl ?_)
     refine A_take 6 rfl (by kernel_rfl) rfl hs (Y_move rfl ?_)
     refine A_take 7 rfl (by kernel_rfl) rfl hs (Y_idxB hb3 j Tryz.underlying30 Tryz.sizeOf5 rfl rfl rfl (by omega) fun p29 hp29 => ?_)
     refine A_take 8 rfl (by kernel_rfl) rfl hs (Y_ldG Tryz.isAgg5 rfl (hp29) ?_)
     refine A_take 9 rfl (by kernel_rfl) rfl hs (Y_move rfl ?_)
     refine A_take 10 rfl (by kernel_rfl) rfl hs (Y_move rfl ?_)
     refine A_take 11 rfl (by kernel_rfl) rfl hs (Y_sub (c := ((j - 1 : Nat) : Int)) rfl rfl (by omega) (by omega) ?_)
     refine A_take 12 rfl (by kernel_rfl) rfl hs (Y_idxB hb3 (j - 1) Tryz.underlying30 Tryz.sizeOf5 rfl rfl rfl (by omega) fun p34 hp34 => ?_)
     refine A_take 13 rfl (by kernel_rfl) rfl hs (Y_ldG Tryz.isAgg5 rfl (hp34) ?_)
     refine A_take 14 rfl (by kernel_rfl) rfl hs (Y_addW rfl rfl ?_)
     refine A_take 15 rfl (by kernel_rfl) rfl hs (Y_cmpS rfl rfl rfl (fun h37 => ?_) (fun h37 => ?_))
     ·
      dsimp only [cmpP] at h37
      refine A_take 16 rfl (by kernel_rfl) rfl hs (Y_pickT rfl rfl ?_)
      refine A_done (by kernel_rfl) (T_kp [3, 4, 5, 38] rfl ?_)
      refine T_condT rfl (T_skip ?_)
      refine T_block (T_region rfl ?_)
      refine O_m rfl ?_
      refine O_y hs (Y_add (c := ((j + 1 : Nat) : Int)) rfl rfl (by omega) (by omega) ?_)
      refine O_a rfl ?_
      refine O_nil ⟨_, ?_, [(3, _), (4, _), (5, _)], ⟨rfl, rfl, rfl, trivial⟩, ⟨j + 1, _, by omega, runL_step hj1 hj2 (by omega) (u8_succ.1 h37), hb3, rfl, rfl, hs⟩⟩
      omega
     ·
      dsimp only [cmpP] at h37
      refine A_take 16 rfl (by kernel_rfl) rfl hs (Y_pickT rfl rfl ?_)
      refine A_done (by kernel_rfl) (T_kp [3, 4, 5, 38] rfl ?_)
      refine T_condF rfl (T_exit ?_)
      have hjs : j = runL rest + 1 := runL_stop hj1 hj2 (fun hlt h => h37 (u8_succ.2 h))
      have hc5 := runL_lt h0
      have hc6 := charT_len (rest[j - 1]'(by omega))
      refine T_seq (T_region rfl ?_)
      refine O_m rfl ?_
      refine O_y hs (Y_idxB hb3 0 Tryz.underlying30 Tryz.sizeOf5 rfl rfl rfl (by omega) fun p42 hp42 => ?_)
      refine O_y hs (Y_ldG Tryz.isAgg5 rfl (hp42) ?_)
      refine O_s (S_call (H1 := []) hs rfl Tryz.func57 rfl (by kernel_rfl) (ctxt_ok (b := rest[0]) hT) fun v4 G' H' _ hR hG44 hs => ?_)
      obtain ⟨rfl, rfl⟩ := hR
      replace hs : St _ _ [_, _, _] _ := hs
      replace hT := hT.mono hG44
      replace hb3 := hb3.mono hG44
      have hs := hs.f1
      have hs := hs.f1
      refine O_s (S_call (H1 := [_, _]) hs rfl Tryz.func59 rfl (by kernel_rfl) (wst_ok (l := l) (.inr rfl) (s := charT rest[0]) (by first | (simp only [List.length_append, List.length_cons, List.length_nil]; omega) | omega) (by omega)) fun v5 G' H' _ hR hG45 hs => ?_)
      obtain ⟨w45, rfl, rfl⟩ := hR
      replace hs : St _ _ [_, _, _] _ := hs
      replace hT := hT.mono hG45
      replace hb3 := hb3.mono hG45
      refine O_nil (T_kp [3, 4, 5] rfl ?_)
      refine T_seq (T_seq (T_region rfl ?_))
      refine O_m rfl ?_
      refine O_y hs (Y_cmpS rfl rfl rfl (fun h47 => ?_) (fun h47 => ?_))
      ·
       dsimp only [cmpP] at h47
       refine O_nil (T_kp [3, 4, 5, 47] rfl ?_)
       refine T_condT rfl (T_region rfl ?_)
       have hs := hs.f1
       have hs := hs.f1
       refine O_s (S_call (H1 := [_, _]) hs rfl Tryz.func58 rfl (by kernel_rfl) (wby_ok (l := (l ++ charT rest[0])) (.inr rfl) (c := 45) (by first | (simp only [List.length_append, List.length_cons, List.length_nil]; omega) | omega)) fun v6 G' H' _ hR hG48 hs => ?_)
       obtain ⟨w48, rfl, rfl⟩ := hR
       replace hs : St _ _ [_, _, _] _ := hs
       replace hT := hT.mono hG48
       replace hb3 := hb3.mono hG48
       refine O_nil (T_kp [3, 4, 5] rfl ?_)
       refine T_seq (T_seq (T_region rfl ?_))
       refine O_m rfl ?_
       refine O_y hs (Y_cmpS rfl rfl rfl (fun h50 => ?_) (fun h50 => ?_))
       ·
        dsimp only [cmpP] at h50
        refine O_nil (T_kp [3, 4, 5, 50] rfl ?_)
        refine T_condT rfl (T_region rfl ?_)
        refine O_m rfl ?_
        refine O_m rfl ?_
        refine O_y hs (Y_sub (c := ((j - 1 : Nat) : Int)) rfl rfl (by omega) (by omega) ?_)
        refine O_y hs (Y_idxB hb3 (j - 1) Tryz.underlying30 Tryz.sizeOf5 rfl rfl rfl (by omega) fun p54 hp54 => ?_)
        refine O_y hs (Y_ldG Tryz.isAgg5 rfl (hp54) ?_)
        refine O_s (S_call (H1 := []) hs rfl Tryz.func57 rfl (by kernel_rfl) (ctxt_ok (b := (rest[j - 1]'(by omega))) hT) fun v7 G' H' _ hR hG56 hs => ?_)
        obtain ⟨rfl, rfl⟩ := hR
        replace hs : St _ _ [_, _, _] _ := hs
        replace hT := hT.mono hG56
        replace hb3 := hb3.mono hG56
        have hs := hs.f1
        have hs := hs.f1
        refine O_s (S_call (H1 := [_, _]) hs rfl Tryz.func59 rfl (by kernel_rfl) (wst_ok (l := ((l ++ charT rest[0]) ++ [45])) (.inr rfl) (s := charT (rest[j - 1]'(by omega))) (by first | (simp only [List.length_append, List.length_cons, List.length_nil]; omega) | omega) (by omega)) fun v8 G' H' _ hR hG57 hs => ?_)
        obtain ⟨w57, rfl, rfl⟩ := hR
        replace hs : St _ _ [_, _, _] _ := hs
        replace hT := hT.mono hG57
        replace hb3 := hb3.mono hG57
        refine O_nil (T_kp [3, 4, 5] rfl ?_)
        refine T_region rfl ?_
        refine O_m rfl ?_
        refine O_m rfl ?_
        refine O_y hs (Y_sliceB hb3 j rest.length Tryz.underlying30 Tryz.sizeOf5 rfl ⟨_, _, rfl, rfl⟩ rfl (by omega) (by omega) fun s60 hs60 => ?_)
        obtain ⟨A60, c60, rfl, _⟩ := id hs60
        refine O_a rfl ?_
        have hs := hs.f2
        have hs := hs.f2
        have hs := hs.f2
        have htk : (rest.drop j).take (rest.length - j) = rest.drop j := List.take_of_length_le (by rw [List.length_drop]; omega)
        have htl : ((rest.drop j).take (rest.length - j)).length = rest.length - j := by rw [htk, List.length_drop]
        have hnew : 91 :: runsT (bytesF c).length (bytesF c) = (((l ++ charT rest[0]) ++ [45]) ++ charT (rest[j - 1]'(by omega))) ++ runsT f1 ((rest.drop j).take (rest.length - j)) := by rw [htk, hrun, runsT_go h0]; subst hjs; rw [if_pos (by omega), if_pos (by omega)]; simp [List.append_assoc]
        refine O_nil ⟨_, ?_, [(3, _), (4, _)], ⟨rfl, rfl, trivial⟩, ⟨f1, (((l ++ charT rest[0]) ++ [45]) ++ charT (rest[j - 1]'(by omega))), _, A60, c60, w57, _, by rw [htk, List.length_drop]; omega, by omega, hnew, hs60, rfl, rfl, hs⟩⟩
        omega
       ·
        dsimp only [cmpP] at h50
        refine O_nil (T_kp [3, 4, 5, 50] rfl ?_)
        refine T_condF rfl (T_skip ?_)
        refine T_region rfl ?_
        refine O_m rfl ?_
        refine O_m rfl ?_
        refine O_y hs (Y_sliceB hb3 j rest.length Tryz.underlying30 Tryz.sizeOf5 rfl ⟨_, _, rfl, rfl⟩ rfl (by omega) (by omega) fun s60 hs60 => ?_)
        obtain ⟨A60, c60, rfl, _⟩ := id hs60
        refine O_a rfl ?_
        have hs := hs.f2
        have hs := hs.f2
        have hs := hs.f2
        have htk : (rest.drop j).take (rest.length - j) = rest.drop j := List.take_of_length_le (by rw [List.length_drop]; omega)
        have htl : ((rest.drop j).take (rest.length - j)).length = rest.length - j := by rw [htk, List.length_drop]
        have hnew : 91 :: runsT (bytesF c).length (bytesF c) = ((l ++ charT rest[0]) ++ [45]) ++ runsT f1 ((rest.drop j).take (rest.length - j)) := by rw [htk, hrun, runsT_go h0]; subst hjs; rw [if_pos (by omega), if_neg (by omega)]; simp [List.append_assoc]
        refine O_nil ⟨_, ?_, [(3, _), (4, _)], ⟨rfl, rfl, trivial⟩, ⟨f1, ((l ++ charT rest[0]) ++ [45]), _, A60, c60, w48, _, by rw [htk, List.length_drop]; omega, by omega, hnew, hs60, rfl, rfl, hs⟩⟩
        omega
      ·
       dsimp only [cmpP] at h47
       refine O_nil (T_kp [3, 4, 5, 47] rfl ?_)
       refine T_condF rfl (T_skip ?_)
       refine T_seq (T_seq (T_region rfl ?_))
       refine O_m rfl ?_
       refine O_y hs (Y_cmpS rfl rfl rfl (fun h50 => ?_) (fun h50 => ?_))
       ·
        dsimp only [cmpP] at h50
        refine O_nil (T_kp [3, 4, 5, 50] rfl ?_)
        refine T_condT rfl (T_region rfl ?_)
        refine O_m rfl ?_
        refine O_m rfl ?_
        refine O_y hs (Y_sub (c := ((j - 1 : Nat) : Int)) rfl rfl (by omega) (by omega) ?_)
        refine O_y hs (Y_idxB hb3 (j - 1) Tryz.underlying30 Tryz.sizeOf5 rfl rfl rfl (by omega) fun p54 hp54 => ?_)
        refine O_y hs (Y_ldG Tryz.isAgg5 rfl (hp54) ?_)
        refine O_s (S_call (H1 := []) hs rfl Tryz.func57 rfl (by kernel_rfl) (ctxt_ok (b := (rest[j - 1]'(by omega))) hT) fun v9 G' H' _ hR hG56 hs => ?_)
        obtain ⟨rfl, rfl⟩ := hR
        replace hs : St _ _ [_, _, _] _ := hs
        replace hT := hT.mono hG56
        replace hb3 := hb3.mono hG56
        have hs := hs.f1
        have hs := hs.f1
        refine O_s (S_call (H1 := [_, _]) hs rfl Tryz.func59 rfl (by kernel_rfl) (wst_ok (l := (l ++ charT rest[0])) (.inr rfl) (s := charT (rest[j - 1]'(by omega))) (by first | (simp only [List.length_append, List.length_cons, List.length_nil]; omega) | omega) (by omega)) fun v10 G' H' _ hR hG57 hs => ?_)
        obtain ⟨w57, rfl, rfl⟩ := hR
        replace hs : St _ _ [_, _, _] _ := hs
        replace hT := hT.mono hG57
        replace hb3 := hb3.mono hG57
        refine O_nil (T_kp [3, 4, 5] rfl ?_)
        refine T_region rfl ?_
        refine O_m rfl ?_
        refine O_m rfl ?_
        refine O_y hs (Y_sliceB hb3 j rest.length Tryz.underlying30 Tryz.sizeOf5 rfl ⟨_, _, rfl, rfl⟩ rfl (by omega) (by omega) fun s60 hs60 => ?_)
        obtain ⟨A60, c60, rfl, _⟩ := id hs60
        refine O_a rfl ?_
        have hs := hs.f2
        have hs := hs.f2
        have hs := hs.f2
        have htk : (rest.drop j).take (rest.length - j) = rest.drop j := List.take_of_length_le (by rw [List.length_drop]; omega)
        have htl : ((rest.drop j).take (rest.length - j)).length = rest.length - j := by rw [htk, List.length_drop]
        have hnew : 91 :: runsT (bytesF c).length (bytesF c) = ((l ++ charT rest[0]) ++ charT (rest[j - 1]'(by omega))) ++ runsT f1 ((rest.drop j).take (rest.length - j)) := by rw [htk, hrun, runsT_go h0]; subst hjs; rw [if_neg (by omega), if_pos (by omega)]; simp [List.append_assoc]
        refine O_nil ⟨_, ?_, [(3, _), (4, _)], ⟨rfl, rfl, trivial⟩, ⟨f1, ((l ++ charT rest[0]) ++ charT (rest[j - 1]'(by omega))), _, A60, c60, w57, _, by rw [htk, List.length_drop]; omega, by omega, hnew, hs60, rfl, rfl, hs⟩⟩
        omega
       ·
        dsimp only [cmpP] at h50
        refine O_nil (T_kp [3, 4, 5, 50] rfl ?_)
        refine T_condF rfl (T_skip ?_)
        refine T_region rfl ?_
        refine O_m rfl ?_
        refine O_m rfl ?_
        refine O_y hs (Y_sliceB hb3 j rest.length Tryz.underlying30 Tryz.sizeOf5 rfl ⟨_, _, rfl, rfl⟩ rfl (by omega) (by omega) fun s60 hs60 => ?_)
        obtain ⟨A60, c60, rfl, _⟩ := id hs60
        refine O_a rfl ?_
        have hs := hs.f2
        have hs := hs.f2
        have hs := hs.f2
        have htk : (rest.drop j).take (rest.length - j) = rest.drop j := List.take_of_length_le (by rw [List.length_drop]; omega)
        have htl : ((rest.drop j).take (rest.length - j)).length = rest.length - j := by rw [htk, List.length_drop]
        have hnew : 91 :: runsT (bytesF c).length (bytesF c) = (l ++ charT rest[0]) ++ runsT f1 ((rest.drop j).take (rest.length - j)) := by rw [htk, hrun, runsT_go h0]; subst hjs; rw [if_neg (by omega), if_neg (by omega)]; simp [List.append_assoc]
        refine O_nil ⟨_, ?_, [(3, _), (4, _)], ⟨rfl, rfl, trivial⟩, ⟨f1, (l ++ charT rest[0]), _, A60, c60, w45, _, by rw [htk, List.length_drop]; omega, by omega, hnew, hs60, rfl, rfl, hs⟩⟩
        omega
    ·
     dsimp only [cmpP] at h25
     refine A_take 4 rfl (by kernel_rfl) rfl hs (Y_move rfl ?_)
     refine A_skip 5 rfl (by kernel_rfl) rfl hs ?_
     refine A_skip 6 rfl (by kernel_rfl) rfl hs ?_
     refine A_skip 7 rfl (by kernel_rfl) rfl hs ?_
     refine A_skip 8 rfl (by kernel_rfl) rfl hs ?_
     refine A_skip 9 rfl (by kernel_rfl) rfl hs ?_
     refine A_skip 10 rfl (by kernel_rfl) rfl hs ?_
     refine A_skip 11 rfl (by kernel_rfl) rfl hs ?_
     refine A_skip 12 rfl (by kernel_rfl) rfl hs ?_
     refine A_skip 13 rfl (by kernel_rfl) rfl hs ?_
     refine A_skip 14 rfl (by kernel_rfl) rfl hs ?_
     refine A_skip 15 rfl (by kernel_rfl) rfl hs ?_
     refine A_take 16 rfl (by kernel_rfl) rfl hs (Y_pickF rfl rfl ?_)
     refine A_done (by kernel_rfl) (T_kp [3, 4, 5, 38] rfl ?_)
     refine T_condF rfl (T_exit ?_)
     have hjs : j = runL rest + 1 := runL_stop hj1 hj2 (fun hlt => absurd hlt (by omega))
     have hc5 := runL_lt h0
     have hc6 := charT_len (rest[j - 1]'(by omega))
     refine T_seq (T_region rfl ?_)
     refine O_m rfl ?_
     refine O_y hs (Y_idxB hb3 0 Tryz.underlying30 Tryz.sizeOf5 rfl rfl rfl (by omega) fun p42 hp42 => ?_)
     refine O_y hs (Y_ldG Tryz.isAgg5 rfl (hp42) ?_)
     refine O_s (S_call (H1 := []) hs rfl Tryz.func57 rfl (by kernel_rfl) (ctxt_ok (b := rest[0]) hT) fun v11 G' H' _ hR hG44 hs => ?_)
     obtain ⟨rfl, rfl⟩ := hR
     replace hs : St _ _ [_, _, _] _ := hs
     replace hT := hT.mono hG44
     replace hb3 := hb3.mono hG44
     have hs := hs.f1
     have hs := hs.f1
     refine O_s (S_call (H1 := [_, _]) hs rfl Tryz.func59 rfl (by kernel_rfl) (wst_ok (l := l) (.inr rfl) (s := charT rest[0]) (by first | (simp only [List.length_append, List.length_cons, List.length_nil]; omega) | omega) (by omega)) fun v12 G' H' _ hR hG45 hs => ?_)
     obtain ⟨w45, rfl, rfl⟩ := hR
     replace hs : St _ _ [_, _, _] _ := hs
     replace hT := hT.mono hG45
     replace hb3 := hb3.mono hG45
     refine O_nil (T_kp [3, 4, 5] rfl ?_)
     refine T_seq (T_seq (T_region rfl ?_))
     refine O_m rfl ?_
     refine O_y hs (Y_cmpS rfl rfl rfl (fun h47 => ?_) (fun h47 => ?_))
     ·
      dsimp only [cmpP] at h47
      refine O_nil (T_kp [3, 4, 5, 47] rfl ?_)
      refine T_condT rfl (T_region rfl ?_)
      have hs := hs.f1
      have hs := hs.f1
      refine O_s (S_call (H1 := [_, _]) hs rfl Tryz.func58 rfl (by kernel_rfl) (wby_ok (l := (l ++ charT rest[0])) (.inr rfl) (c := 45) (by first | (simp only [List.length_append, List.length_cons, List.length_nil]; omega) | omega)) fun v13 G' H' _ hR hG48 hs => ?_)
      obtain ⟨w48, rfl, rfl⟩ := hR
      replace hs : St _ _ [_, _, _] _ := hs
      replace hT := hT.mono hG48
      replace hb3 := hb3.mono hG48
      refine O_nil (T_kp [3, 4, 5] rfl ?_)
      refine T_seq (T_seq (T_region rfl ?_))
      refine O_m rfl ?_
      refine O_y hs (Y_cmpS rfl rfl rfl (fun h50 => ?_) (fun h50 => ?_))
      ·
       dsimp only [cmpP] at h50
       refine O_nil (T_kp [3, 4, 5, 50] rfl ?_)
       refine T_condT rfl (T_region rfl ?_)
       refine O_m rfl ?_
       refine O_m rfl ?_
       refine O_y hs (Y_sub (c := ((j - 1 : Nat) : Int)) rfl rfl (by omega) (by omega) ?_)
       refine O_y hs (Y_idxB hb3 (j - 1) Tryz.underlying30 Tryz.sizeOf5 rfl rfl rfl (by omega) fun p54 hp54 => ?_)
       refine O_y hs (Y_ldG Tryz.isAgg5 rfl (hp54) ?_)
       refine O_s (S_call (H1 := []) hs rfl Tryz.func57 rfl (by kernel_rfl) (ctxt_ok (b := (rest[j - 1]'(by omega))) hT) fun v14 G' H' _ hR hG56 hs => ?_)
       obtain ⟨rfl, rfl⟩ := hR
       replace hs : St _ _ [_, _, _] _ := hs
       replace hT := hT.mono hG56
       replace hb3 := hb3.mono hG56
       have hs := hs.f1
       have hs := hs.f1
       refine O_s (S_call (H1 := [_, _]) hs rfl Tryz.func59 rfl (by kernel_rfl) (wst_ok (l := ((l ++ charT rest[0]) ++ [45])) (.inr rfl) (s := charT (rest[j - 1]'(by omega))) (by first | (simp only [List.length_append, List.length_cons, List.length_nil]; omega) | omega) (by omega)) fun v15 G' H' _ hR hG57 hs => ?_)
       obtain ⟨w57, rfl, rfl⟩ := hR
       replace hs : St _ _ [_, _, _] _ := hs
       replace hT := hT.mono hG57
       replace hb3 := hb3.mono hG57
       refine O_nil (T_kp [3, 4, 5] rfl ?_)
       refine T_region rfl ?_
       refine O_m rfl ?_
       refine O_m rfl ?_
       refine O_y hs (Y_sliceB hb3 j rest.length Tryz.underlying30 Tryz.sizeOf5 rfl ⟨_, _, rfl, rfl⟩ rfl (by omega) (by omega) fun s60 hs60 => ?_)
       obtain ⟨A60, c60, rfl, _⟩ := id hs60
       refine O_a rfl ?_
       have hs := hs.f2
       have hs := hs.f2
       have hs := hs.f2
       have htk : (rest.drop j).take (rest.length - j) = rest.drop j := List.take_of_length_le (by rw [List.length_drop]; omega)
       have htl : ((rest.drop j).take (rest.length - j)).length = rest.length - j := by rw [htk, List.length_drop]
       have hnew : 91 :: runsT (bytesF c).length (bytesF c) = (((l ++ charT rest[0]) ++ [45]) ++ charT (rest[j - 1]'(by omega))) ++ runsT f1 ((rest.drop j).take (rest.length - j)) := by rw [htk, hrun, runsT_go h0]; subst hjs; rw [if_pos (by omega), if_pos (by omega)]; simp [List.append_assoc]
       refine O_nil ⟨_, ?_, [(3, _), (4, _)], ⟨rfl, rfl, trivial⟩, ⟨f1, (((l ++ charT rest[0]) ++ [45]) ++ charT (rest[j - 1]'(by omega))), _, A60, c60, w57, _, by rw [htk, List.length_drop]; omega, by omega, hnew, hs60, rfl, rfl, hs⟩⟩
       omega
      ·
       dsimp only [cmpP] at h50
       refine O_nil (T_kp [3, 4, 5, 50] rfl ?_)
       refine T_condF rfl (T_skip ?_)
       refine T_region rfl ?_
       refine O_m rfl ?_
       refine O_m rfl ?_
       refine O_y hs (Y_sliceB hb3 j rest.length Tryz.underlying30 Tryz.sizeOf5 rfl ⟨_, _, rfl, rfl⟩ rfl (by omega) (by omega) fun s60 hs60 => ?_)
       obtain ⟨A60, c60, rfl, _⟩ := id hs60
       refine O_a rfl ?_
       have hs := hs.f2
       have hs := hs.f2
       have hs := hs.f2
       have htk : (rest.drop j).take (rest.length - j) = rest.drop j := List.take_of_length_le (by rw [List.length_drop]; omega)
       have htl : ((rest.drop j).take (rest.length - j)).length = rest.length - j := by rw [htk, List.length_drop]
       have hnew : 91 :: runsT (bytesF c).length (bytesF c) = ((l ++ charT rest[0]) ++ [45]) ++ runsT f1 ((rest.drop j).take (rest.length - j)) := by rw [htk, hrun, runsT_go h0]; subst hjs; rw [if_pos (by omega), if_neg (by omega)]; simp [List.append_assoc]
       refine O_nil ⟨_, ?_, [(3, _), (4, _)], ⟨rfl, rfl, trivial⟩, ⟨f1, ((l ++ charT rest[0]) ++ [45]), _, A60, c60, w48, _, by rw [htk, List.length_drop]; omega, by omega, hnew, hs60, rfl, rfl, hs⟩⟩
       omega
     ·
      dsimp only [cmpP] at h47
      refine O_nil (T_kp [3, 4, 5, 47] rfl ?_)
      refine T_condF rfl (T_skip ?_)
      refine T_seq (T_seq (T_region rfl ?_))
      refine O_m rfl ?_
      refine O_y hs (Y_cmpS rfl rfl rfl (fun h50 => ?_) (fun h50 => ?_))
      ·
       dsimp only [cmpP] at h50
       refine O_nil (T_kp [3, 4, 5, 50] rfl ?_)
       refine T_condT rfl (T_region rfl ?_)
       refine O_m rfl ?_
       refine O_m rfl ?_
       refine O_y hs (Y_sub (c := ((j - 1 : Nat) : Int)) rfl rfl (by omega) (by omega) ?_)
       refine O_y hs (Y_idxB hb3 (j - 1) Tryz.underlying30 Tryz.sizeOf5 rfl rfl rfl (by omega) fun p54 hp54 => ?_)
       refine O_y hs (Y_ldG Tryz.isAgg5 rfl (hp54) ?_)
       refine O_s (S_call (H1 := []) hs rfl Tryz.func57 rfl (by kernel_rfl) (ctxt_ok (b := (rest[j - 1]'(by omega))) hT) fun v16 G' H' _ hR hG56 hs => ?_)
       obtain ⟨rfl, rfl⟩ := hR
       replace hs : St _ _ [_, _, _] _ := hs
       replace hT := hT.mono hG56
       replace hb3 := hb3.mono hG56
       have hs := hs.f1
       have hs := hs.f1
       refine O_s (S_call (H1 := [_, _]) hs rfl Tryz.func59 rfl (by kernel_rfl) (wst_ok (l := (l ++ charT rest[0])) (.inr rfl) (s := charT (rest[j - 1]'(by omega))) (by first | (simp only [List.length_append, List.length_cons, List.length_nil]; omega) | omega) (by omega)) fun v17 G' H' _ hR hG57 hs => ?_)
       obtain ⟨w57, rfl, rfl⟩ := hR
       replace hs : St _ _ [_, _, _] _ := hs
       replace hT := hT.mono hG57
       replace hb3 := hb3.mono hG57
       refine O_nil (T_kp [3, 4, 5] rfl ?_)
       refine T_region rfl ?_
       refine O_m rfl ?_
       refine O_m rfl ?_
       refine O_y hs (Y_sliceB hb3 j rest.length Tryz.underlying30 Tryz.sizeOf5 rfl ⟨_, _, rfl, rfl⟩ rfl (by omega) (by omega) fun s60 hs60 => ?_)
       obtain ⟨A60, c60, rfl, _⟩ := id hs60
       refine O_a rfl ?_
       have hs := hs.f2
       have hs := hs.f2
       have hs := hs.f2
       have htk : (rest.drop j).take (rest.length - j) = rest.drop j := List.take_of_length_le (by rw [List.length_drop]; omega)
       have htl : ((rest.drop j).take (rest.length - j)).length = rest.length - j := by rw [htk, List.length_drop]
       have hnew : 91 :: runsT (bytesF c).length (bytesF c) = ((l ++ charT rest[0]) ++ charT (rest[j - 1]'(by omega))) ++ runsT f1 ((rest.drop j).take (rest.length - j)) := by rw [htk, hrun, runsT_go h0]; subst hjs; rw [if_neg (by omega), if_pos (by omega)]; simp [List.append_assoc]
       refine O_nil ⟨_, ?_, [(3, _), (4, _)], ⟨rfl, rfl, trivial⟩, ⟨f1, ((l ++ charT rest[0]) ++ charT (rest[j - 1]'(by omega))), _, A60, c60, w57, _, by rw [htk, List.length_drop]; omega, by omega, hnew, hs60, rfl, rfl, hs⟩⟩
       omega
      ·
       dsimp only [cmpP] at h50
       refine O_nil (T_kp [3, 4, 5, 50] rfl ?_)
       refine T_condF rfl (T_skip ?_)
       refine T_region rfl ?_
       refine O_m rfl ?_
       refine O_m rfl ?_
       refine O_y hs (Y_sliceB hb3 j rest.length Tryz.underlying30 Tryz.sizeOf5 rfl ⟨_, _, rfl, rfl⟩ rfl (by omega) (by omega) fun s60 hs60 => ?_)
       obtain ⟨A60, c60, rfl, _⟩ := id hs60
       refine O_a rfl ?_
       have hs := hs.f2
       have hs := hs.f2
       have hs := hs.f2
       have htk : (rest.drop j).take (rest.length - j) = rest.drop j := List.take_of_length_le (by rw [List.length_drop]; omega)
       have htl : ((rest.drop j).take (rest.length - j)).length = rest.length - j := by rw [htk, List.length_drop]
       have hnew : 91 :: runsT (bytesF c).length (bytesF c) = (l ++ charT rest[0]) ++ runsT f1 ((rest.drop j).take (rest.length - j)) := by rw [htk, hrun, runsT_go h0]; subst hjs; rw [if_neg (by omega), if_neg (by omega)]; simp [List.append_assoc]
       refine O_nil ⟨_, ?_, [(3, _), (4, _)], ⟨rfl, rfl, trivial⟩, ⟨f1, (l ++ charT rest[0]), _, A60, c60, w45, _, by rw [htk, List.length_drop]; omega, by omega, hnew, hs60, rfl, rfl, hs⟩⟩
       omega
   ·
    dsimp only [cmpP] at h21
    refine O_nil (T_kp [3, 4, 21] rfl ?_)
    refine T_condF rfl (T_exit ?_)
    obtain rfl : rest = [] := List.length_eq_zero_iff.1 (by omega)
    rw [runsT_nil, List.append_nil] at hrun
    refine T_seq (T_region rfl ?_)
    have hs := hs.f1
    have hs := hs.f1
    refine O_s (S_call (H1 := [_, _]) hs rfl Tryz.func58 rfl (by kernel_rfl) (wby_ok (l := l) (.inr rfl) (c := 93) (by first | (simp only [List.length_append, List.length_cons, List.length_nil]; omega) | omega)) fun v18 G' H' _ hR hG61 hs => ?_)
    obtain ⟨w61, rfl, rfl⟩ := hR
    replace hs : St _ _ [_, _, _] _ := hs
    replace hT := hT.mono hG61
    replace hb3 := hb3.mono hG61
    refine O_nil (T_kp [4] rfl ?_)
    refine T_seq (T_region rfl ?_)
    have hs := hs.f1
    have hs := hs.f1
    refine O_s (S_call (H1 := [_, _]) hs rfl Tryz.func60 rfl (by kernel_rfl) (bstr_ok (l := l ++ [93]) (by simp) (by first | (simp only [List.length_append, List.length_cons, List.length_nil]; omega) | omega)) fun v19 G' H' _ hR hG62 hs => ?_)
    obtain ⟨rfl, rfl⟩ := hR
    replace hs : St _ _ [_] _ := hs
    replace hT := hT.mono hG62
    replace hb3 := hb3.mono hG62
    refine O_a rfl ?_
    refine O_nil (T_kp [2] rfl ?_)
    refine T_ret ?_
    refine Rt_fin (vs := [_]) Tryz.results39 rfl ⟨rfl, trivial⟩ ?_
    try dsimp only [tup]
    exact ⟨_, [], hs.done, rfl, by rw [← hrun]; unfold classT; rw [if_neg (by omega), if_neg (by omega)]; rfl⟩

end Go.Proofs.YtkmgbcjfidpmgaaGreatDoor
