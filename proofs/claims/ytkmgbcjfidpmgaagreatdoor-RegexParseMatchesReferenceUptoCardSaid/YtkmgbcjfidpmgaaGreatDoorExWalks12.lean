import Derived.Test.YtkmgbcjfidpmgaaGreatDoorExWalks11
import Derived.Test.YtkmgbcjfidpmgaaGreatDoorProg
import Derived.Test.YtkmgbcjfidpmgaaGreatDoorSame
import Derived.Test.YtkmgbcjfidpmgaaGreatDoorExThin
import Derived.Test.YtkmgbcjfidpmgaaGreatDoorShelf
namespace Go.Proofs.YtkmgbcjfidpmgaaGreatDoor
open Go Go.Ex Go.RowKit
theorem PL61 : places Tryz.prog 61 = some [(0, 1), (1, 1), (2, 1), (3, 1), (4, 1)] := by kernel_rfl

theorem stop_1 {s : List UInt8} {q : Nat} (h : s.length ≤ q) : stopB s q = true := by unfold stopB; simp [h]
theorem stop_b {s : List UInt8} {q : Nat} (h : isB s q 124 = true ∨ isB s q 38 = true ∨ isB s q 41 = true) : stopB s q = true := by
  unfold stopB
  rcases h with h | h | h <;> rw [h] <;> simp
theorem stop_n {s : List UInt8} {q : Nat} (h : q < s.length) (h1 : isB s q 124 = false) (h2 : isB s q 38 = false) (h3 : isB s q 41 = false) : stopB s q = false := by
  unfold stopB; rw [h1, h2, h3]; simp; omega


set_option maxHeartbeats 2000000 in
set_option maxRecDepth 10000 in
theorem rcat_ok {s : List UInt8} {f : Nat} (ih : ∀ f', f' ≤ f → PCR 91 1 itemF s (f')) : PCR 71 2 catF s (f + 1) := by
 intro G p v q ns r hq hl hn hr
 have hsz := bsz s
 show FnOk Tryz.prog 71 [.pointer (some ⟨p, 0, none⟩)] G [.blk p 61 [.string ⟨s.toArray⟩, .int .i64 (q : Int), v, .int .i64 0, .int .i64 0], .row 42 9 v ns.length (ns.flatMap nodeC)] fun r_ _ H' => ∃ (a : Int) (at_ : Nat) (v1 : Value) (ns1 : List NodeV) (er wh : Int), r_ = .int .i64 a ∧ H' = [.blk p 61 [.string ⟨s.toArray⟩, .int .i64 (at_ : Int), v1, .int .i64 er, .int .i64 wh], .row 42 9 v1 ns1.length (ns1.flatMap nodeC)] ∧ Out s q ns.length 2 r a at_ ns1 er wh
 obtain ⟨ra, hra, hco⟩ := catF_open hr
 refine FnOk.of_T [(0, _)] Tryz.func71 rfl Tryz.ntmps71 (by simp) rfl fun w0 hs => ?_
 refine T_seq (T_region rfl ?_)
 refine O_a rfl ?_
 refine O_nil (T_kp [0] rfl ?_)
 refine T_seq (T_region rfl ?_)
 refine O_m rfl ?_
 have hs := hs.f1
 have hs := hs.f1
 refine O_s (S_call (H1 := [_, _]) hs rfl Tryz.func91 rfl (by kernel_rfl) (ih f (Nat.le_refl _) _ p _ q ns ra (by omega) hl (by omega) hra) fun v1 G' H' _ hR hG6 hs => ?_)
 obtain ⟨a6, at6, w6, ns6, er6, wh6, rfl, rfl, ho6⟩ := hR
 replace hs : St _ _ [_, _] _ := hs
 rcases ho6 with ⟨rfl, rfl, hc6⟩ | ⟨he6, hp6, hz6, hm6, wq6, rfl, hc6⟩
 ·
  have hgo6 := hco.go hc6
  have hgd6 := (good_all s f).2.2.2.2.2.2.1 ⟨q, ns⟩ (by dsimp only; omega) a6 ⟨at6, ns6⟩ (by rw [hra, hc6])
  dsimp only at hgo6 hgd6
  refine O_a rfl ?_
  refine O_nil (T_kp [0, 3] rfl ?_)
  refine T_seq (T_block (T_loop (fun m E w => ∃ (f' : Nat) (a : Int) (at_ : Nat) (v1 : Value) (ns1 : List NodeV) (er wh : Int) (G' : Ghost), f' ≤ f ∧ LI s catL r q ns.length 2 f' a at_ ns1 er wh ∧ m = f' ∧ E = ⟨[], [(0, .pointer (some ⟨p, 0, none⟩)), (3, .int .i64 a)]⟩ ∧ St ⟨w0, G, feet [.blk p 61 [.string ⟨s.toArray⟩, .int .i64 (q : Int), v, .int .i64 0, .int .i64 0], .row 42 9 v ns.length (ns.flatMap nodeC)]⟩ G' [.blk p 61 [.string ⟨s.toArray⟩, .int .i64 (at_ : Int), v1, .int .i64 er, .int .i64 wh], .row 42 9 v1 ns1.length (ns1.flatMap nodeC)] w) (L := [(0, _), (3, _)]) ⟨rfl, rfl, trivial⟩ (⟨f, a6, _, _, _, 0, 0, _, Nat.le_refl _, .inl ⟨rfl, rfl, hgo6, by omega, by omega, by omega⟩, rfl, rfl, hs⟩) fun m E w hI => ?_))
  obtain ⟨f', a, at_, v1, ns1, er, wh, G', hf', hI, rfl, rfl, hs⟩ := hI
  have hrg := hI.rng
  refine T_seq (T_seq (T_drawS [0, 1, 2, 3, 4, 5, 6, 7, 8, 9, 10, 11, 12, 13, 14, 15, 16, 17, 18, 19, 20, 21, 22, 23, 24, 25, 26, 27, 28, 29, 30, 31] hs (by kernel_rfl) ?_))
  replace hs := hs.drew
  refine A_take 0 rfl (by kernel_rfl) rfl hs (Y_move rfl ?_)
  refine A_take 1 rfl (by kernel_rfl) rfl hs (Y_nil rfl ?_)
  refine A_take 2 rfl (by kernel_rfl) rfl hs (Y_fieldAddr FO61_3 rfl (m := 3) rfl ?_)
  refine A_take 3 rfl (by kernel_rfl) rfl hs (Y_ld 0 Tryz.isAgg25 rfl rfl rfl ?_)
  refine A_take 4 rfl (by kernel_rfl) rfl hs (Y_cmpS rfl rfl rfl (fun h11 => ?_) (fun h11 => ?_))
  ·
   dsimp only [cmpP] at h11
   obtain ⟨rfl, rfl, hgo, hg1, hg2, hg3⟩ := hI.resolve_right (fun h => h.1 h11)
   refine A_take 5 rfl (by kernel_rfl) rfl hs (Y_move rfl ?_)
   refine A_take 6 rfl (by kernel_rfl) rfl hs (Y_move rfl ?_)
   refine A_take 7 rfl (by kernel_rfl) rfl hs (Y_nil rfl ?_)
   refine A_take 8 rfl (by kernel_rfl) rfl hs (Y_fieldAddr FO61_1 rfl (m := 1) rfl ?_)
   refine A_take 9 rfl (by kernel_rfl) rfl hs (Y_ld 0 Tryz.isAgg3 rfl rfl rfl ?_)
   refine A_take 10 rfl (by kernel_rfl) rfl hs (Y_move rfl ?_)
   refine A_take 11 rfl (by kernel_rfl) rfl hs (Y_nil rfl ?_)
   refine A_take 12 rfl (by kernel_rfl) rfl hs (Y_fieldAddr FO61_0 rfl (m := 0) rfl ?_)
   refine A_take 13 rfl (by kernel_rfl) rfl hs (Y_ld 0 Tryz.isAgg9 rfl rfl rfl ?_)
   refine A_take 14 rfl (by kernel_rfl) rfl hs (Y_lenS Tryz.underlying9 rfl ?_)
   refine A_take 15 rfl (by kernel_rfl) rfl hs (Y_cmpS rfl rfl rfl (fun h22 => ?_) (fun h22 => ?_))
   ·
    dsimp only [cmpP] at h22
    refine A_take 16 rfl (by kernel_rfl) rfl hs (Y_pickT rfl rfl ?_)
    refine A_take 17 rfl (by kernel_rfl) rfl hs (Y_move rfl ?_)
    refine A_take 18 rfl (by kernel_rfl) rfl hs (Y_move rfl ?_)
    have hle := hs.le
    refine A_only 19 rfl (by kernel_rfl) rfl (S_call (H1 := [_]) hs rfl Tryz.func72 rfl (by kernel_rfl) (is_0 (q := at_) (b := 124) (by omega) hl) fun v2 G' H' _ hR hG26 hs => ?_)
    obtain ⟨rfl, rfl⟩ := hR
    replace hs : St _ _ [_, _] _ := hs
    cases hi26 : isB s at_ 124
    ·
     refine A_moreS hs hle hG26 (List.Sublist.refl _) ?_
     refine A_take 20 rfl (by kernel_rfl) rfl hs (Y_not rfl ?_)
     refine A_take 21 rfl (by kernel_rfl) rfl hs (Y_pickT rfl rfl ?_)
     refine A_take 22 rfl (by kernel_rfl) rfl hs (Y_move rfl ?_)
     refine A_take 23 rfl (by kernel_rfl) rfl hs (Y_move rfl ?_)
     have hle := hs.le
     refine A_only 24 rfl (by kernel_rfl) rfl (S_call (H1 := [_]) hs rfl Tryz.func72 rfl (by kernel_rfl) (is_0 (q := at_) (b := 38) (by omega) hl) fun v3 G' H' _ hR hG31 hs => ?_)
     obtain ⟨rfl, rfl⟩ := hR
     replace hs : St _ _ [_, _] _ := hs
     cases hi31 : isB s at_ 38
     ·
      refine A_moreS hs hle hG31 (List.Sublist.refl _) ?_
      refine A_take 25 rfl (by kernel_rfl) rfl hs (Y_not rfl ?_)
      refine A_take 26 rfl (by kernel_rfl) rfl hs (Y_pickT rfl rfl ?_)
      refine A_take 27 rfl (by kernel_rfl) rfl hs (Y_move rfl ?_)
      refine A_take 28 rfl (by kernel_rfl) rfl hs (Y_move rfl ?_)
      have hle := hs.le
      refine A_only 29 rfl (by kernel_rfl) rfl (S_call (H1 := [_]) hs rfl Tryz.func72 rfl (by kernel_rfl) (is_0 (q := at_) (b := 41) (by omega) hl) fun v4 G' H' _ hR hG36 hs => ?_)
      obtain ⟨rfl, rfl⟩ := hR
      replace hs : St _ _ [_, _] _ := hs
      cases hi36 : isB s at_ 41
      ·
       refine A_moreS hs hle hG36 (List.Sublist.refl _) ?_
       refine A_take 30 rfl (by kernel_rfl) rfl hs (Y_not rfl ?_)
       refine A_take 31 rfl (by kernel_rfl) rfl hs (Y_pickT rfl rfl ?_)
       refine A_done (by kernel_rfl) (T_kp [0, 3, 38] rfl ?_)
       refine T_condT rfl (T_skip ?_)
       obtain ⟨f1, rfl⟩ := catL_pos hgo
       obtain ⟨ra2, hra2, hco2⟩ := catL_go hgo (stop_n (q := at_) (by have h9 := h22; (try dsimp only at h9); omega) hi26 hi31 hi36)
       refine T_block (T_seq (T_region rfl ?_))
       refine O_m rfl ?_
       have hs := hs.f1
       have hs := hs.f1
       refine O_s (S_call (H1 := [_, _]) hs rfl Tryz.func91 rfl (by kernel_rfl) (ih f1 (by omega) _ p _ at_ ns1 ra2 (by omega) hl (by omega) hra2) fun v5 G' H' _ hR hG40 hs => ?_)
       obtain ⟨a40, at40, w40, ns40, er40, wh40, rfl, rfl, ho40⟩ := hR
       replace hs : St _ _ [_, _] _ := hs
       rcases ho40 with ⟨rfl, rfl, hc40⟩ | ⟨he40, hp40, hz40, hm40, wq40, rfl, hc40⟩
       ·
        have hgo40 : catL s f1 (ns40.length : Int) ⟨at40, ns40 ++ [binN 4 a a40]⟩ = some r := hco2.go hc40
        have hgd40 := (good_all s f1).2.2.2.2.2.2.1 ⟨at_, ns1⟩ (by dsimp only; omega) a40 ⟨at40, ns40⟩ (hra2.trans (by rw [hc40]))
        dsimp only at hgd40
        refine O_a rfl ?_
        refine O_nil (T_kp [0, 3, 4] rfl ?_)
        refine T_region rfl ?_
        refine O_m rfl ?_
        refine O_m rfl ?_
        refine O_m rfl ?_
        refine O_y hs (Y_build Tryz.zeroValue42 rfl PL42 rfl (cs := [_, _, _, _, _, _, _, _, _]) rfl ?_)
        have hs := hs.f1
        have hs := hs.f1
        refine O_s (S_call (H1 := [_, _]) hs rfl Tryz.func53 rfl (by kernel_rfl) (rnode_ok (q := at40) (er := 0) (wh := 0) (ns := ns40) (n := (binN 4 a a40)) rfl (by omega)) fun v6 G' H' _ hR hG45 hs => ?_)
        obtain ⟨x45, rfl, rfl⟩ := hR
        replace hs : St _ _ [_, _] _ := hs
        refine O_a rfl ?_
        have hs := hs.f1
        have hs := hs.f1
        refine O_nil ⟨_, ?_, [(0, _), (3, _)], ⟨rfl, rfl, trivial⟩, ⟨f1, _, _, _, _, 0, 0, _, by omega, .inl ⟨rfl, rfl, hgo40, by omega, by omega, by rw [List.length_append]; simp only [List.length_singleton]; omega⟩, rfl, rfl, hs⟩⟩
        omega
       ·
        have hr040 := hco2.er hc40
        refine O_a rfl ?_
        refine O_nil (T_kp [0, 3, 4] rfl ?_)
        refine T_region rfl ?_
        refine O_m rfl ?_
        refine O_m rfl ?_
        refine O_m rfl ?_
        refine O_y hs (Y_build Tryz.zeroValue42 rfl PL42 rfl (cs := [_, _, _, _, _, _, _, _, _]) rfl ?_)
        have hs := hs.f1
        have hs := hs.f1
        refine O_s (S_call (H1 := [_, _]) hs rfl Tryz.func53 rfl (by kernel_rfl) (rnode_ok (q := at40) (er := er40) (wh := (wq40 : Int)) (ns := ns40) (n := (binN 4 a a40)) rfl (by omega)) fun v7 G' H' _ hR hG45 hs => ?_)
        obtain ⟨x45, rfl, rfl⟩ := hR
        replace hs : St _ _ [_, _] _ := hs
        refine O_a rfl ?_
        have hs := hs.f1
        have hs := hs.f1
        refine O_nil ⟨_, ?_, [(0, _), (3, _)], ⟨rfl, rfl, trivial⟩, ⟨0, _, _, _, _, _, _, _, Nat.zero_le _, .inr ⟨he40, rfl, by omega, by omega, by rw [List.length_append]; simp only [List.length_singleton]; omega, _, rfl, hr040⟩, rfl, rfl, hs⟩⟩
        omega
      ·
       refine A_moreS hs hle hG36 (List.Sublist.refl _) ?_
       refine A_take 30 rfl (by kernel_rfl) rfl hs (Y_not rfl ?_)
       refine A_take 31 rfl (by kernel_rfl) rfl hs (Y_pickT rfl rfl ?_)
       refine A_done (by kernel_rfl) (T_kp [0, 3, 38] rfl ?_)
       refine T_condF rfl (T_exit ?_)
       refine T_seq (T_region rfl ?_)
       refine O_m rfl ?_
       refine O_a rfl ?_
       refine O_nil (T_kp [2] rfl ?_)
       refine T_ret ?_
       have hs := hs.f1
       have hs := hs.f1
       refine Rt_fin (vs := [_]) Tryz.results71 rfl ⟨rfl, trivial⟩ ?_
       try dsimp only [tup]
       exact ⟨_, _, hs, _, _, _, _, _, _, rfl, rfl, .inl ⟨rfl, rfl, cat_end hgo (stop_b (.inr (.inr hi36)))⟩⟩
     ·
      refine A_moreS hs hle hG31 (List.Sublist.refl _) ?_
      refine A_take 25 rfl (by kernel_rfl) rfl hs (Y_not rfl ?_)
      refine A_take 26 rfl (by kernel_rfl) rfl hs (Y_pickT rfl rfl ?_)
      refine A_take 27 rfl (by kernel_rfl) rfl hs (Y_move rfl ?_)
      refine A_skip 28 rfl (by kernel_rfl) rfl hs ?_
      refine A_skip 29 rfl (by kernel_rfl) rfl hs ?_
      refine A_skip 30 rfl (by kernel_rfl) rfl hs ?_
      refine A_take 31 rfl (by kernel_rfl) rfl hs (Y_pickF rfl rfl ?_)
      refine A_done (by kernel_rfl) (T_kp [0, 3, 38] rfl ?_)
      refine T_condF rfl (T_exit ?_)
      refine T_seq (T_region rfl ?_)
      refine O_m rfl ?_
      refine O_a rfl ?_
      refine O_nil (T_kp [2] rfl ?_)
      refine T_ret ?_
      have hs := hs.f1
      have hs := hs.f1
      refine Rt_fin (vs := [_]) Tryz.results71 rfl ⟨rfl, trivial⟩ ?_
      try dsimp only [tup]
      exact ⟨_, _, hs, _, _, _, _, _, _, rfl, rfl, .inl ⟨rfl, rfl, cat_end hgo (stop_b (.inr (.inl hi31)))⟩⟩
    ·
     refine A_moreS hs hle hG26 (List.Sublist.refl _) ?_
     refine A_take 20 rfl (by kernel_rfl) rfl hs (Y_not rfl ?_)
     refine A_take 21 rfl (by kernel_rfl) rfl hs (Y_pickT rfl rfl ?_)
     refine A_take 22 rfl (by kernel_rfl) rfl hs (Y_move rfl ?_)
     refine A_skip 23 rfl (by kernel_rfl) rfl hs ?_
     refine A_skip 24 rfl (by kernel_rfl) rfl hs ?_
     refine A_skip 25 rfl (by kernel_rfl) rfl hs ?_
     refine A_take 26 rfl (by kernel_rfl) rfl hs (Y_pickF rfl rfl ?_)
     refine A_take 27 rfl (by kernel_rfl) rfl hs (Y_move rfl ?_)
     refine A_skip 28 rfl (by kernel_rfl) rfl hs ?_
     refine A_skip 29 rfl (by kernel_rfl) rfl hs ?_
     refine A_skip 30 rfl (by kernel_rfl) rfl hs ?_
     refine A_take 31 rfl (by kernel_rfl) rfl hs (Y_pickF rfl rfl ?_)
     refine A_done (by kernel_rfl) (T_kp [0, 3, 38] rfl ?_)
     refine T_condF rfl (T_exit ?_)
     refine T_seq (T_region rfl ?_)
     refine O_m rfl ?_
     refine O_a rfl ?_
     refine O_nil (T_kp [2] rfl ?_)
     refine T_ret ?_
     have hs := hs.f1
     have hs := hs.f1
     refine Rt_fin (vs := [_]) Tryz.results71 rfl ⟨rfl, trivial⟩ ?_
     try dsimp only [tup]
     exact ⟨_, _, hs, _, _, _, _, _, _, rfl, rfl, .inl ⟨rfl, rfl, cat_end hgo (stop_b (.inl hi26))⟩⟩
   ·
    dsimp only [cmpP] at h22
    refine A_take 16 rfl (by kernel_rfl) rfl hs (Y_pickT rfl rfl ?_)
    refine A_take 17 rfl (by kernel_rfl) rfl hs (Y_move rfl ?_)
    refine A_skip 18 rfl (by kernel_rfl) rfl hs ?_
    refine A_skip 19 rfl (by kernel_rfl) rfl hs ?_
    refine A_skip 20 rfl (by kernel_rfl) rfl hs ?_
    refine A_take 21 rfl (by kernel_rfl) rfl hs (Y_pickF rfl rfl ?_)
    refine A_take 22 rfl (by kernel_rfl) rfl hs (Y_move rfl ?_)
    refine A_skip 23 rfl (by kernel_rfl) rfl hs ?_
    refine A_skip 24 rfl (by kernel_rfl) rfl hs ?_
    refine A_skip 25 rfl (by kernel_rfl) rfl hs ?_
    refine A_take 26 rfl (by kernel_rfl) rfl hs (Y_pickF rfl rfl ?_)
    refine A_take 27 rfl (by kernel_rfl) rfl hs (Y_move rfl ?_)
    refine A_skip 28 rfl (by kernel_rfl) rfl hs ?_
    refine A_skip 29 rfl (by kernel_rfl) rfl hs ?_
    refine A_skip 30 rfl (by kernel_rfl) rfl hs ?_
    refine A_take 31 rfl (by kernel_rfl) rfl hs (Y_pickF rfl rfl ?_)
    refine A_done (by kernel_rfl) (T_kp [0, 3, 38] rfl ?_)
    refine T_condF rfl (T_exit ?_)
    refine T_seq (T_region rfl ?_)
    refine O_m rfl ?_
    refine O_a rfl ?_
    refine O_nil (T_kp [2] rfl ?_)
    refine T_ret ?_
    have hs := hs.f1
    have hs := hs.f1
    refine Rt_fin (vs := [_]) Tryz.results71 rfl ⟨rfl, trivial⟩ ?_
    try dsimp only [tup]
    exact ⟨_, _, hs, _, _, _, _, _, _, rfl, rfl, .inl ⟨rfl, rfl, cat_end hgo (stop_1 (by dsimp only; omega))⟩⟩
  ·
   dsimp only [cmpP] at h11
   refine A_take 5 rfl (by kernel_rfl) rfl hs (Y_move rfl ?_)
   refine A_skip 6 rfl (by kernel_rfl) rfl hs ?_
   refine A_skip 7 rfl (by kernel_rfl) rfl hs ?_
   refine A_skip 8 rfl (by kernel_rfl) rfl hs ?_
   refine A_skip 9 rfl (by kernel_rfl) rfl hs ?_
   refine A_skip 10 rfl (by kernel_rfl) rfl hs ?_
   refine A_skip 11 rfl (by kernel_rfl) rfl hs ?_
   refine A_skip 12 rfl (by kernel_rfl) rfl hs ?_
   refine A_skip 13 rfl (by kernel_rfl) rfl hs ?_
   refine A_skip 14 rfl (by kernel_rfl) rfl hs ?_
   refine A_skip 15 rfl (by kernel_rfl) rfl hs ?_
   refine A_take 16 rfl (by kernel_rfl) rfl hs (Y_pickF rfl rfl ?_)
   refine A_take 17 rfl (by kernel_rfl) rfl hs (Y_move rfl ?_)
   refine A_skip 18 rfl (by kernel_rfl) rfl hs ?_
   refine A_skip 19 rfl (by kernel_rfl) rfl hs ?_
   refine A_skip 20 rfl (by kernel_rfl) rfl hs ?_
   refine A_take 21 rfl (by kernel_rfl) rfl hs (Y_pickF rfl rfl ?_)
   refine A_take 22 rfl (by kernel_rfl) rfl hs (Y_move rfl ?_)
   refine A_skip 23 rfl (by kernel_rfl) rfl hs ?_
   refine A_skip 24 rfl (by kernel_rfl) rfl hs ?_
   refine A_skip 25 rfl (by kernel_rfl) rfl hs ?_
   refine A_take 26 rfl (by kernel_rfl) rfl hs (Y_pickF rfl rfl ?_)
   refine A_take 27 rfl (by kernel_rfl) rfl hs (Y_move rfl ?_)
   refine A_skip 28 rfl (by kernel_rfl) rfl hs ?_
   refine A_skip 29 rfl (by kernel_rfl) rfl hs ?_
   refine A_skip 30 rfl (by kernel_rfl) rfl hs ?_
   refine A_take 31 rfl (by kernel_rfl) rfl hs (Y_pickF rfl rfl ?_)
   refine A_done (by kernel_rfl) (T_kp [0, 3, 38] rfl ?_)
   refine T_condF rfl (T_exit ?_)
   refine T_seq (T_region rfl ?_)
   refine O_m rfl ?_
   refine O_a rfl ?_
   refine O_nil (T_kp [2] rfl ?_)
   refine T_ret ?_
   have hs := hs.f1
   have hs := hs.f1
   refine Rt_fin (vs := [_]) Tryz.results71 rfl ⟨rfl, trivial⟩ ?_
   try dsimp only [tup]
   exact ⟨_, _, hs, _, _, _, _, _, _, rfl, rfl, hI.out fun h0 _ => absurd h0 h11⟩
 ·
  have hr06 := hco.er hc6
  refine O_a rfl ?_
  refine O_nil (T_kp [0, 3] rfl ?_)
  refine T_seq (T_block (T_loop (fun m E w => ∃ (f' : Nat) (a : Int) (at_ : Nat) (v1 : Value) (ns1 : List NodeV) (er wh : Int) (G' : Ghost), f' ≤ f ∧ LI s catL r q ns.length 2 f' a at_ ns1 er wh ∧ m = f' ∧ E = ⟨[], [(0, .pointer (some ⟨p, 0, none⟩)), (3, .int .i64 a)]⟩ ∧ St ⟨w0, G, feet [.blk p 61 [.string ⟨s.toArray⟩, .int .i64 (q : Int), v, .int .i64 0, .int .i64 0], .row 42 9 v ns.length (ns.flatMap nodeC)]⟩ G' [.blk p 61 [.string ⟨s.toArray⟩, .int .i64 (at_ : Int), v1, .int .i64 er, .int .i64 wh], .row 42 9 v1 ns1.length (ns1.flatMap nodeC)] w) (L := [(0, _), (3, _)]) ⟨rfl, rfl, trivial⟩ (⟨0, a6, _, _, _, _, _, _, Nat.zero_le _, .inr ⟨he6, rfl, by omega, by omega, by omega, _, rfl, hr06⟩, rfl, rfl, hs⟩) fun m E w hI => ?_))
  obtain ⟨f', a, at_, v1, ns1, er, wh, G', hf', hI, rfl, rfl, hs⟩ := hI
  have hrg := hI.rng
  refine T_seq (T_seq (T_drawS [0, 1, 2, 3, 4, 5, 6, 7, 8, 9, 10, 11, 12, 13, 14, 15, 16, 17, 18, 19, 20, 21, 22, 23, 24, 25, 26, 27, 28, 29, 30, 31] hs (by kernel_rfl) ?_))
  replace hs := hs.drew
  refine A_take 0 rfl (by kernel_rfl) rfl hs (Y_move rfl ?_)
  refine A_take 1 rfl (by kernel_rfl) rfl hs (Y_nil rfl ?_)
  refine A_take 2 rfl (by kernel_rfl) rfl hs (Y_fieldAddr FO61_3 rfl (m := 3) rfl ?_)
  refine A_take 3 rfl (by kernel_rfl) rfl hs (Y_ld 0 Tryz.isAgg25 rfl rfl rfl ?_)
  refine A_take 4 rfl (by kernel_rfl) rfl hs (Y_cmpS rfl rfl rfl (fun h11 => ?_) (fun h11 => ?_))
  ·
   dsimp only [cmpP] at h11
   obtain ⟨rfl, rfl, hgo, hg1, hg2, hg3⟩ := hI.resolve_right (fun h => h.1 h11)
   refine A_take 5 rfl (by kernel_rfl) rfl hs (Y_move rfl ?_)
   refine A_take 6 rfl (by kernel_rfl) rfl hs (Y_move rfl ?_)
   refine A_take 7 rfl (by kernel_rfl) rfl hs (Y_nil rfl ?_)
   refine A_take 8 rfl (by kernel_rfl) rfl hs (Y_fieldAddr FO61_1 rfl (m := 1) rfl ?_)
   refine A_take 9 rfl (by kernel_rfl) rfl hs (Y_ld 0 Tryz.isAgg3 rfl rfl rfl ?_)
   refine A_take 10 rfl (by kernel_rfl) rfl hs (Y_move rfl ?_)
   refine A_take 11 rfl (by kernel_rfl) rfl hs (Y_nil rfl ?_)
   refine A_take 12 rfl (by kernel_rfl) rfl hs (Y_fieldAddr FO61_0 rfl (m := 0) rfl ?_)
   refine A_take 13 rfl (by kernel_rfl) rfl hs (Y_ld 0 Tryz.isAgg9 rfl rfl rfl ?_)
   refine A_take 14 rfl (by kernel_rfl) rfl hs (Y_lenS Tryz.underlying9 rfl ?_)
   refine A_take 15 rfl (by kernel_rfl) rfl hs (Y_cmpS rfl rfl rfl (fun h22 => ?_) (fun h22 => ?_))
   ·
    dsimp only [cmpP] at h22
    refine A_take 16 rfl (by kernel_rfl) rfl hs (Y_pickT rfl rfl ?_)
    refine A_take 17 rfl (by kernel_rfl) rfl hs (Y_move rfl ?_)
    refine A_take 18 rfl (by kernel_rfl) rfl hs (Y_move rfl ?_)
    have hle := hs.le
    refine A_only 19 rfl (by kernel_rfl) rfl (S_call (H1 := [_]) hs rfl Tryz.func72 rfl (by kernel_rfl) (is_0 (q := at_) (b := 124) (by omega) hl) fun v8 G' H' _ hR hG26 hs => ?_)
    obtain ⟨rfl, rfl⟩ := hR
    replace hs : St _ _ [_, _] _ := hs
    cases hi26 : isB s at_ 124
    ·
     refine A_moreS hs hle hG26 (List.Sublist.refl _) ?_
     refine A_take 20 rfl (by kernel_rfl) rfl hs (Y_not rfl ?_)
     refine A_take 21 rfl (by kernel_rfl) rfl hs (Y_pickT rfl rfl ?_)
     refine A_take 22 rfl (by kernel_rfl) rfl hs (Y_move rfl ?_)
     refine A_take 23 rfl (by kernel_rfl) rfl hs (Y_move rfl ?_)
     have hle := hs.le
     refine A_only 24 rfl (by kernel_rfl) rfl (S_call (H1 := [_]) hs rfl Tryz.func72 rfl (by kernel_rfl) (is_0 (q := at_) (b := 38) (by omega) hl) fun v9 G' H' _ hR hG31 hs => ?_)
     obtain ⟨rfl, rfl⟩ := hR
     replace hs : St _ _ [_, _] _ := hs
     cases hi31 : isB s at_ 38
     ·
      refine A_moreS hs hle hG31 (List.Sublist.refl _) ?_
      refine A_take 25 rfl (by kernel_rfl) rfl hs (Y_not rfl ?_)
      refine A_take 26 rfl (by kernel_rfl) rfl hs (Y_pickT rfl rfl ?_)
      refine A_take 27 rfl (by kernel_rfl) rfl hs (Y_move rfl ?_)
      refine A_take 28 rfl (by kernel_rfl) rfl hs (Y_move rfl ?_)
      have hle := hs.le
      refine A_only 29 rfl (by kernel_rfl) rfl (S_call (H1 := [_]) hs rfl Tryz.func72 rfl (by kernel_rfl) (is_0 (q := at_) (b := 41) (by omega) hl) fun v10 G' H' _ hR hG36 hs => ?_)
      obtain ⟨rfl, rfl⟩ := hR
      replace hs : St _ _ [_, _] _ := hs
      cases hi36 : isB s at_ 41
      ·
       refine A_moreS hs hle hG36 (List.Sublist.refl _) ?_
       refine A_take 30 rfl (by kernel_rfl) rfl hs (Y_not rfl ?_)
       refine A_take 31 rfl (by kernel_rfl) rfl hs (Y_pickT rfl rfl ?_)
       refine A_done (by kernel_rfl) (T_kp [0, 3, 38] rfl ?_)
       refine T_condT rfl (T_skip ?_)
       obtain ⟨f1, rfl⟩ := catL_pos hgo
       obtain ⟨ra2, hra2, hco2⟩ := catL_go hgo (stop_n (q := at_) (by have h9 := h22; (try dsimp only at h9); omega) hi26 hi31 hi36)
       refine T_block (T_seq (T_region rfl ?_))
       refine O_m rfl ?_
       have hs := hs.f1
       have hs := hs.f1
       refine O_s (S_call (H1 := [_, _]) hs rfl Tryz.func91 rfl (by kernel_rfl) (ih f1 (by omega) _ p _ at_ ns1 ra2 (by omega) hl (by omega) hra2) fun v11 G' H' _ hR hG40 hs => ?_)
       obtain ⟨a40, at40, w40, ns40, er40, wh40, rfl, rfl, ho40⟩ := hR
       replace hs : St _ _ [_, _] _ := hs
       rcases ho40 with ⟨rfl, rfl, hc40⟩ | ⟨he40, hp40, hz40, hm40, wq40, rfl, hc40⟩
       ·
        have hgo40 : catL s f1 (ns40.length : Int) ⟨at40, ns40 ++ [binN 4 a a40]⟩ = some r := hco2.go hc40
        have hgd40 := (good_all s f1).2.2.2.2.2.2.1 ⟨at_, ns1⟩ (by dsimp only; omega) a40 ⟨at40, ns40⟩ (hra2.trans (by rw [hc40]))
        dsimp only at hgd40
        refine O_a rfl ?_
        refine O_nil (T_kp [0, 3, 4] rfl ?_)
        refine T_region rfl ?_
        refine O_m rfl ?_
        refine O_m rfl ?_
        refine O_m rfl ?_
        refine O_y hs (Y_build Tryz.zeroValue42 rfl PL42 rfl (cs := [_, _, _, _, _, _, _, _, _]) rfl ?_)
        have hs := hs.f1
        have hs := hs.f1
        refine O_s (S_call (H1 := [_, _]) hs rfl Tryz.func53 rfl (by kernel_rfl) (rnode_ok (q := at40) (er := 0) (wh := 0) (ns := ns40) (n := (binN 4 a a40)) rfl (by omega)) fun v12 G' H' _ hR hG45 hs => ?_)
        obtain ⟨x45, rfl, rfl⟩ := hR
        replace hs : St _ _ [_, _] _ := hs
        refine O_a rfl ?_
        have hs := hs.f1
        have hs := hs.f1
        refine O_nil ⟨_, ?_, [(0, _), (3, _)], ⟨rfl, rfl, trivial⟩, ⟨f1, _, _, _, _, 0, 0, _, by omega, .inl ⟨rfl, rfl, hgo40, by omega, by omega, by rw [List.length_append]; simp only [List.length_singleton]; omega⟩, rfl, rfl, hs⟩⟩
        omega
       ·
        have hr040 := hco2.er hc40
        refine O_a rfl ?_
        refine O_nil (T_kp [0, 3, 4] rfl ?_)
        refine T_region rfl ?_
        refine O_m rfl ?_
        refine O_m rfl ?_
        refine O_m rfl ?_
        refine O_y hs (Y_build Tryz.zeroValue42 rfl PL42 rfl (cs := [_, _, _, _, _, _, _, _, _]) rfl ?_)
        have hs := hs.f1
        have hs := hs.f1
        refine O_s (S_call (H1 := [_, _]) hs rfl Tryz.func53 rfl (by kernel_rfl) (rnode_ok (q := at40) (er := er40) (wh := (wq40 : Int)) (ns := ns40) (n := (binN 4 a a40)) rfl (by omega)) fun v13 G' H' _ hR hG45 hs => ?_)
        obtain ⟨x45, rfl, rfl⟩ := hR
        replace hs : St _ _ [_, _] _ := hs
        refine O_a rfl ?_
        have hs := hs.f1
        have hs := hs.f1
        refine O_nil ⟨_, ?_, [(0, _), (3, _)], ⟨rfl, rfl, trivial⟩, ⟨0, _, _, _, _, _, _, _, Nat.zero_le _, .inr ⟨he40, rfl, by omega, by omega, by rw [List.length_append]; simp only [List.length_singleton]; omega, _, rfl, hr040⟩, rfl, rfl, hs⟩⟩
        omega
      ·
       refine A_moreS hs hle hG36 (List.Sublist.refl _) ?_
       refine A_take 30 rfl (by kernel_rfl) rfl hs (Y_not rfl ?_)
       refine A_take 31 rfl (by kernel_rfl) rfl hs (Y_pickT rfl rfl ?_)
       refine A_done (by kernel_rfl) (T_kp [0, 3, 38] rfl ?_)
       refine T_condF rfl (T_exit ?_)
       refine T_seq (T_region rfl ?_)
       refine O_m rfl ?_
       refine O_a rfl ?_
       refine O_nil (T_kp [2] rfl ?_)
       refine T_ret ?_
       have hs := hs.f1
       have hs := hs.f1
       refine Rt_fin (vs := [_]) Tryz.results71 rfl ⟨rfl, trivial⟩ ?_
       try dsimp only [tup]
       exact ⟨_, _, hs, _, _, _, _, _, _, rfl, rfl, .inl ⟨rfl, rfl, cat_end hgo (stop_b (.inr (.inr hi36)))⟩⟩
     ·
      refine A_moreS hs hle hG31 (List.Sublist.refl _) ?_
      refine A_take 25 rfl (by kernel_rfl) rfl hs (Y_not rfl ?_)
      refine A_take 26 rfl (by kernel_rfl) rfl hs (Y_pickT rfl rfl ?_)
      refine A_take 27 rfl (by kernel_rfl) rfl hs (Y_move rfl ?_)
      refine A_skip 28 rfl (by kernel_rfl) rfl hs ?_
      refine A_skip 29 rfl (by kernel_rfl) rfl hs ?_
      refine A_skip 30 rfl (by kernel_rfl) rfl hs ?_
      refine A_take 31 rfl (by kernel_rfl) rfl hs (Y_pickF rfl rfl ?_)
      refine A_done (by kernel_rfl) (T_kp [0, 3, 38] rfl ?_)
      refine T_condF rfl (T_exit ?_)
      refine T_seq (T_region rfl ?_)
      refine O_m rfl ?_
      refine O_a rfl ?_
      refine O_nil (T_kp [2] rfl ?_)
      refine T_ret ?_
      have hs := hs.f1
      have hs := hs.f1
      refine Rt_fin (vs := [_]) Tryz.results71 rfl ⟨rfl, trivial⟩ ?_
      try dsimp only [tup]
      exact ⟨_, _, hs, _, _, _, _, _, _, rfl, rfl, .inl ⟨rfl, rfl, cat_end hgo (stop_b (.inr (.inl hi31)))⟩⟩
    ·
     refine A_moreS hs hle hG26 (List.Sublist.refl _) ?_
     refine A_take 20 rfl (by kernel_rfl) rfl hs (Y_not rfl ?_)
     refine A_take 21 rfl (by kernel_rfl) rfl hs (Y_pickT rfl rfl ?_)
     refine A_take 22 rfl (by kernel_rfl) rfl hs (Y_move rfl ?_)
     refine A_skip 23 rfl (by kernel_rfl) rfl hs ?_
     refine A_skip 24 rfl (by kernel_rfl) rfl hs ?_
     refine A_skip 25 rfl (by kernel_rfl) rfl hs ?_
     refine A_take 26 rfl (by kernel_rfl) rfl hs (Y_pickF rfl rfl ?_)
     refine A_take 27 rfl (by kernel_rfl) rfl hs (Y_move rfl ?_)
     refine A_skip 28 rfl (by kernel_rfl) rfl hs ?_
     refine A_skip 29 rfl (by kernel_rfl) rfl hs ?_
     refine A_skip 30 rfl (by kernel_rfl) rfl hs ?_
     refine A_take 31 rfl (by kernel_rfl) rfl hs (Y_pickF rfl rfl ?_)
     refine A_done (by kernel_rfl) (T_kp [0, 3, 38] rfl ?_)
     refine T_condF rfl (T_exit ?_)
     refine T_seq (T_region rfl ?_)
     refine O_m rfl ?_
     refine O_a rfl ?_
     refine O_nil (T_kp [2] rfl ?_)
     refine T_ret ?_
     have hs := hs.f1
     have hs := hs.f1
     refine Rt_fin (vs := [_]) Tryz.results71 rfl ⟨rfl, trivial⟩ ?_
     try dsimp only [tup]
     exact ⟨_, _, hs, _, _, _, _, _, _, rfl, rfl, .inl ⟨rfl, rfl, cat_end hgo (stop_b (.inl hi26))⟩⟩
   ·
    dsimp only [cmpP] at h22
    refine A_take 16 rfl (by kernel_rfl) rfl hs (Y_pickT rfl rfl ?_)
    refine A_take 17 rfl (by kernel_rfl) rfl hs (Y_move rfl ?_)
    refine A_skip 18 rfl (by kernel_rfl) rfl hs ?_
    refine A_skip 19 rfl (by kernel_rfl) rfl hs ?_
    refine A_skip 20 rfl (by kernel_rfl) rfl hs ?_
    refine A_take 21 rfl (by kernel_rfl) rfl hs (Y_pickF rfl rfl ?_)
    refine A_take 22 rfl (by kernel_rfl) rfl hs (Y_move rfl ?_)
    refine A_skip 23 rfl (by kernel_rfl) rfl hs ?_
    refine A_skip 24 rfl (by kernel_rfl) rfl hs ?_
    refine A_skip 25 rfl (by kernel_rfl) rfl hs ?_
    refine A_take 26 rfl (by kernel_rfl) rfl hs (Y_pickF rfl rfl ?_)
    refine A_take 27 rfl (by kernel_rfl) rfl hs (Y_move rfl ?_)
    refine A_skip 28 rfl (by kernel_rfl) rfl hs ?_
    refine A_skip 29 rfl (by kernel_rfl) rfl hs ?_
    refine A_skip 30 rfl (by kernel_rfl) rfl hs ?_
    refine A_take 31 rfl (by kernel_rfl) rfl hs (Y_pickF rfl rfl ?_)
    refine A_done (by kernel_rfl) (T_kp [0, 3, 38] rfl ?_)
    refine T_condF rfl (T_exit ?_)
    refine T_seq (T_region rfl ?_)
    refine O_m rfl ?_
    refine O_a rfl ?_
    refine O_nil (T_kp [2] rfl ?_)
    refine T_ret ?_
    have hs := hs.f1
    have hs := hs.f1
    refine Rt_fin (vs := [_]) Tryz.results71 rfl ⟨rfl, trivial⟩ ?_
    try dsimp only [tup]
    exact ⟨_, _, hs, _, _, _, _, _, _, rfl, rfl, .inl ⟨rfl, rfl, cat_end hgo (stop_1 (by dsimp only; omega))⟩⟩
  ·
   dsimp only [cmpP] at h11
   refine A_take 5 rfl (by kernel_rfl) rfl hs (Y_move rfl ?_)
   refine A_skip 6 rfl (by kernel_rfl) rfl hs ?_
   refine A_skip 7 rfl (by kernel_rfl) rfl hs ?_
   refine A_skip 8 rfl (by kernel_rfl) rfl hs ?_
   refine A_skip 9 rfl (by kernel_rfl) rfl hs ?_
   refine A_skip 10 rfl (by kernel_rfl) rfl hs ?_
   refine A_skip 11 rfl (by kernel_rfl) rfl hs ?_
   refine A_skip 12 rfl (by kernel_rfl) rfl hs ?_
   refine A_skip 13 rfl (by kernel_rfl) rfl hs ?_
   refine A_skip 14 rfl (by kernel_rfl) rfl hs ?_
   refine A_skip 15 rfl (by kernel_rfl) rfl hs ?_
   refine A_take 16 rfl (by kernel_rfl) rfl hs (Y_pickF rfl rfl ?_)
   refine A_take 17 rfl (by kernel_rfl) rfl hs (Y_move rfl ?_)
   refine A_skip 18 rfl (by kernel_rfl) rfl hs ?_
   refine A_skip 19 rfl (by kernel_rfl) rfl hs ?_
   refine A_skip 20 rfl (by kernel_rfl) rfl hs ?_
   refine A_take 21 rfl (by kernel_rfl) rfl hs (Y_pickF rfl rfl ?_)
   refine A_take 22 rfl (by kernel_rfl) rfl hs (Y_move rfl ?_)
   refine A_skip 23 rfl (by kernel_rfl) rfl hs ?_
   refine A_skip 24 rfl (by kernel_rfl) rfl hs ?_
   refine A_skip 25 rfl (by kernel_rfl) rfl hs ?_
   refine A_take 26 rfl (by kernel_rfl) rfl hs (Y_pickF rfl rfl ?_)
   refine A_take 27 rfl (by kernel_rfl) rfl hs (Y_move rfl ?_)
   refine A_skip 28 rfl (by kernel_rfl) rfl hs ?_
   refine A_skip 29 rfl (by kernel_rfl) rfl hs ?_
   refine A_skip 30 rfl (by kernel_rfl) rfl hs ?_
   refine A_take 31 rfl (by kernel_rfl) rfl hs (Y_pickF rfl rfl ?_)
   refine A_done (by kernel_rfl) (T_kp [0, 3, 38] rfl ?_)
   refine T_condF rfl (T_exit ?_)
   refine T_seq (T_region rfl ?_)
   refine O_m rfl ?_
   refine O_a rfl ?_
   refine O_nil (T_kp [2] rfl ?_)
   refine T_ret ?_
   have hs := hs.f1
   have hs := hs.f1
   refine Rt_fin (vs := [_]) Tryz.results71 rfl ⟨rfl, trivial⟩ ?_
   try dsimp only [tup]
   exact ⟨_, _, hs, _, _, _, _, _, _, rfl, rfl, hI.out fun h0 _ => absurd h0 h11⟩

set_option maxHeartbeats 2000000 in
set_option maxRecDepth 10000 in
theorem ritem_ok {s : List UInt8} {f : Nat} (ihi : ∀ f', f' ≤ f → PCR 91 1 itemF s (f')) (iha : ∀ f', f' ≤ f → PCR 101 1 atomF s (f')) : PCR 91 1 itemF s (f + 1) := by
 intro G p v q ns r hq hl hn hr
 have hsz := bsz s
 show FnOk Tryz.prog 91 [.pointer (some ⟨p, 0, none⟩)] G [.blk p 61 [.string ⟨s.toArray⟩, .int .i64 (q : Int), v, .int .i64 0, .int .i64 0], .row 42 9 v ns.length (ns.flatMap nodeC)] fun r_ _ H' => ∃ (a : Int) (at_ : Nat) (v1 : Value) (ns1 : List NodeV) (er wh : Int), r_ = .int .i64 a ∧ H' = [.blk p 61 [.string ⟨s.toArray⟩, .int .i64 (at_ : Int), v1, .int .i64 er, .int .i64 wh], .row 42 9 v1 ns1.length (ns1.flatMap nodeC)] ∧ Out s q ns.length 1 r a at_ ns1 er wh
 refine FnOk.of_T [(0, _)] Tryz.func91 rfl Tryz.ntmps91 (by simp) rfl fun w0 hs => ?_
 refine T_seq (T_region rfl ?_)
 refine O_a rfl ?_
 refine O_nil (T_kp [0] rfl ?_)
 refine T_seq (T_seq (T_region rfl ?_))
 refine O_m rfl ?_
 cases hk8 : isB s q 126
 ·
  refine O_s (S_call (H1 := [_]) hs rfl Tryz.func52 rfl (by kernel_rfl) (take_0f (q := q) (by omega) hl hk8) fun v1 G' H' _ hR hG8 hs => ?_)
  obtain ⟨rfl, rfl⟩ := hR
  replace hs : St _ _ [_, _] _ := hs
  refine O_nil (T_kp [0, 8] rfl ?_)
  refine T_condF rfl (T_skip ?_)
  obtain ⟨ra, hra, hco⟩ := itemF_atom hr hk8
  refine T_seq (T_region rfl ?_)
  refine O_m rfl ?_
  have hs := hs.f1
  have hs := hs.f1
  refine O_s (S_call (H1 := [_, _]) hs rfl Tryz.func101 rfl (by kernel_rfl) (iha f (Nat.le_refl _) _ p _ q ns ra (by omega) hl (by omega) hra) fun v2 G' H' _ hR hG16 hs => ?_)
  obtain ⟨a16, at16, w16, ns16, er16, wh16, rfl, rfl, ho16⟩ := hR
  replace hs : St _ _ [_, _] _ := hs
  rcases ho16 with ⟨rfl, rfl, hc16⟩ | ⟨he16, hp16, hz16, hm16, wq16, rfl, hc16⟩
  ·
   have hgo16 := hco.go hc16
   have hgd16 := (good_all s f).2.2.2.2.2.2.2.2 ⟨q, ns⟩ (by dsimp only; omega) a16 ⟨at16, ns16⟩ (by rw [hra, hc16])
   dsimp only at hgo16 hgd16
   refine O_a rfl ?_
   refine O_nil (T_kp [0, 4] rfl ?_)
   refine T_seq (T_block (T_loop (fun m E w => ∃ (f' : Nat) (a : Int) (at_ : Nat) (v1 : Value) (ns1 : List NodeV) (er wh : Int) (G' : Ghost), f' ≤ f ∧ LI s itemL r q ns.length 1 f' a at_ ns1 er wh ∧ m = f' ∧ E = ⟨[], [(0, .pointer (some ⟨p, 0, none⟩)), (4, .int .i64 a)]⟩ ∧ St ⟨w0, G, feet [.blk p 61 [.string ⟨s.toArray⟩, .int .i64 (q : Int), v, .int .i64 0, .int .i64 0], .row 42 9 v ns.length (ns.flatMap nodeC)]⟩ G' [.blk p 61 [.string ⟨s.toArray⟩, .int .i64 (at_ : Int), v1, .int .i64 er, .int .i64 wh], .row 42 9 v1 ns1.length (ns1.flatMap nodeC)] w) (L := [(0, _), (4, _)]) ⟨rfl, rfl, trivial⟩ (⟨f, a16, _, _, _, 0, 0, _, Nat.le_refl _, .inl ⟨rfl, rfl, hgo16, by omega, by omega, by omega⟩, rfl, rfl, hs⟩) fun m E w hI => ?_))
   obtain ⟨f', a, at_, v1, ns1, er, wh, G', hf', hI, rfl, rfl, hs⟩ := hI
   have hrg := hI.rng
   refine T_seq (T_seq (T_region rfl ?_))
   refine O_m rfl ?_
   refine O_y hs (Y_nil rfl ?_)
   refine O_y hs (Y_fieldAddr FO61_3 rfl (m := 3) rfl ?_)
   refine O_y hs (Y_ld 0 Tryz.isAgg25 rfl rfl rfl ?_)
   refine O_y hs (Y_cmpS rfl rfl rfl (fun h21 => ?_) (fun h21 => ?_))
   ·
    dsimp only [cmpP] at h21
    obtain ⟨rfl, rfl, hgo, hg1, hg2, hg3⟩ := hI.resolve_right (fun h => h.1 h21)
    obtain ⟨f1, rfl⟩ := itemL_pos hgo
    refine O_nil (T_kp [0, 4, 21] rfl ?_)
    refine T_condT rfl (T_skip ?_)
    refine T_block (T_seq (T_region rfl ?_))
    refine O_m rfl ?_
    refine O_s (S_call (H1 := [_]) hs rfl Tryz.func102 rfl (by kernel_rfl) (rrep_ok (q := at_) (by omega) hl) fun v3 G' H' _ hR hG24 hs => ?_)
    obtain ⟨mn, mx, bo, at24, er24, wh24, rfl, rfl, ho24⟩ := hR
    replace hs : St _ _ [_, _] _ := hs
    rcases ho24 with ⟨rfl, rfl, rfl, hsf, hAt⟩ | ⟨rfl, rfl, rfl, hsf, hp1, hp2⟩ | ⟨he24, rfl, wq24, rfl, hsf, hp1, hp2⟩
    ·
     refine O_m rfl ?_
     refine O_y hs (Y_extract rfl rfl ?_)
     refine O_y hs (Y_extract rfl rfl ?_)
     refine O_s (S_alloc hs Tryz.zeroValue42 (cs := [_, _, _, _, _, _, _, _, _]) rfl fun b5 _ hs => ?_)
     refine O_n (S_stA hs Tryz.sizeOf42 rfl rfl (vs := [_, _, _, _, _, _, _, _, _]) rfl (rfl) (by simp) (cs' := [_, _, _, _, _, _, _, _, _]) rfl fun _ hs => ?_)
     refine O_a rfl ?_
     refine O_nil (T_kp [0, 4, 5, 6] rfl ?_)
     refine T_seq (T_seq (T_region rfl ?_))
     refine O_m rfl ?_
     refine O_y hs (Y_not rfl ?_)
     refine O_nil (T_kp [0, 4, 5, 28] rfl ?_)
     refine T_condT rfl (T_seq (T_region rfl ?_))
     refine O_m rfl ?_
     refine O_a rfl ?_
     refine O_nil (T_kp [2] rfl ?_)
     refine T_ret ?_
     have hs := hs.f2
     have hs := hs.f2
     refine Rt_fin (vs := [_]) Tryz.results91 rfl ⟨rfl, trivial⟩ ?_
     try dsimp only [tup]
     exact ⟨_, _, hs.weak hs.le (Ghost.le.refl _) (List.sublist_append_left [_, _] _), _, _, _, _, _, _, rfl, rfl, .inl ⟨rfl, rfl, by rw [itemL_stop hgo hsf, hAt]⟩⟩
    ·
     refine O_m rfl ?_
     refine O_y hs (Y_extract rfl rfl ?_)
     refine O_y hs (Y_extract rfl rfl ?_)
     refine O_s (S_alloc hs Tryz.zeroValue42 (cs := [_, _, _, _, _, _, _, _, _]) rfl fun b5 _ hs => ?_)
     refine O_n (S_stA hs Tryz.sizeOf42 rfl rfl (vs := [_, _, _, _, _, _, _, _, _]) rfl (rfl) (by simp) (cs' := [_, _, _, _, _, _, _, _, _]) rfl fun _ hs => ?_)
     refine O_a rfl ?_
     refine O_nil (T_kp [0, 4, 5, 6] rfl ?_)
     refine T_seq (T_seq (T_region rfl ?_))
     refine O_m rfl ?_
     refine O_y hs (Y_not rfl ?_)
     refine O_nil (T_kp [0, 4, 5, 28] rfl ?_)
     refine T_condF rfl (T_skip ?_)
     refine T_seq (T_region rfl ?_)
     refine O_m rfl ?_
     refine O_y hs (Y_fieldAddr FO42_2 rfl (m := 5) rfl ?_)
     refine O_n (S_st hs Tryz.sizeOf3 rfl rfl rfl (by simp) (cs' := [_, _, _, _, _, _, _, _, _]) rfl fun _ hs => ?_)
     refine O_nil (T_kp [0, 5] rfl ?_)
     refine T_region rfl ?_
     refine O_m rfl ?_
     refine O_y hs (Y_ldA 0 Tryz.isAgg42 Tryz.sizeOf42 rfl rfl (vs := [_, _, _, _, _, _, _, _, _]) rfl rfl ?_)
     have hs := hs.f2
     have hs := hs.f2
     refine O_s (S_call (H1 := [_, _]) hs rfl Tryz.func53 rfl (by kernel_rfl) (rnode_ok (q := at24) (er := 0) (wh := 0) (ns := ns1) (n := (⟨8, noC, a, 0, mn, mx⟩ : NodeV)) rfl (by omega)) fun v4 G' H' _ hR hG34 hs => ?_)
     obtain ⟨x34, rfl, rfl⟩ := hR
     replace hs : St _ _ [_, _, _] _ := hs
     refine O_a rfl ?_
     have hs := hs.f1
     have hs := hs.f1
     refine O_nil ⟨_, ?_, [(0, _), (4, _)], ⟨rfl, rfl, trivial⟩, ⟨f1, _, _, _, _, 0, 0, _, by omega, .inl ⟨rfl, rfl, (show itemL s f1 (ns1.length : Int) ⟨at24, ns1 ++ [⟨8, noC, a, 0, mn, mx⟩]⟩ = some r from itemL_go hgo hsf), by omega, by omega, by rw [List.length_append]; simp only [List.length_singleton]; omega⟩, rfl, rfl, hs.weak hs.le (Ghost.le.refl _) (List.sublist_append_left [_, _] _)⟩⟩
     omega
    ·
     refine O_m rfl ?_
     refine O_y hs (Y_extract rfl rfl ?_)
     refine O_y hs (Y_extract rfl rfl ?_)
     refine O_s (S_alloc hs Tryz.zeroValue42 (cs := [_, _, _, _, _, _, _, _, _]) rfl fun b5 _ hs => ?_)
     refine O_n (S_stA hs Tryz.sizeOf42 rfl rfl (vs := [_, _, _, _, _, _, _, _, _]) rfl (rfl) (by simp) (cs' := [_, _, _, _, _, _, _, _, _]) rfl fun _ hs => ?_)
     refine O_a rfl ?_
     refine O_nil (T_kp [0, 4, 5, 6] rfl ?_)
     refine T_seq (T_seq (T_region rfl ?_))
     refine O_m rfl ?_
     refine O_y hs (Y_not rfl ?_)
     refine O_nil (T_kp [0, 4, 5, 28] rfl ?_)
     refine T_condF rfl (T_skip ?_)
     refine T_seq (T_region rfl ?_)
     refine O_m rfl ?_
     refine O_y hs (Y_fieldAddr FO42_2 rfl (m := 5) rfl ?_)
     refine O_n (S_st hs Tryz.sizeOf3 rfl rfl rfl (by simp) (cs' := [_, _, _, _, _, _, _, _, _]) rfl fun _ hs => ?_)
     refine O_nil (T_kp [0, 5] rfl ?_)
     refine T_region rfl ?_
     refine O_m rfl ?_
     refine O_y hs (Y_ldA 0 Tryz.isAgg42 Tryz.sizeOf42 rfl rfl (vs := [_, _, _, _, _, _, _, _, _]) rfl rfl ?_)
     have hs := hs.f2
     have hs := hs.f2
     refine O_s (S_call (H1 := [_, _]) hs rfl Tryz.func53 rfl (by kernel_rfl) (rnode_ok (q := at24) (er := er24) (wh := (wq24 : Int)) (ns := ns1) (n := (⟨8, noC, a, 0, mn, mx⟩ : NodeV)) rfl (by omega)) fun v5 G' H' _ hR hG34 hs => ?_)
     obtain ⟨x34, rfl, rfl⟩ := hR
     replace hs : St _ _ [_, _, _] _ := hs
     refine O_a rfl ?_
     have hs := hs.f1
     have hs := hs.f1
     refine O_nil ⟨_, ?_, [(0, _), (4, _)], ⟨rfl, rfl, trivial⟩, ⟨0, _, _, _, _, _, _, _, Nat.zero_le _, .inr ⟨he24, rfl, by omega, by omega, by rw [List.length_append]; simp only [List.length_singleton]; omega, _, rfl, itemL_err hgo hsf⟩, rfl, rfl, hs.weak hs.le (Ghost.le.refl _) (List.sublist_append_left [_, _] _)⟩⟩
     omega
   ·
    dsimp only [cmpP] at h21
    refine O_nil (T_kp [0, 4, 21] rfl ?_)
    refine T_condF rfl (T_exit ?_)
    refine T_seq (T_region rfl ?_)
    refine O_m rfl ?_
    refine O_a rfl ?_
    refine O_nil (T_kp [2] rfl ?_)
    refine T_ret ?_
    have hs := hs.f1
    have hs := hs.f1
    refine Rt_fin (vs := [_]) Tryz.results91 rfl ⟨rfl, trivial⟩ ?_
    try dsimp only [tup]
    exact ⟨_, _, hs, _, _, _, _, _, _, rfl, rfl, hI.out fun h0 _ => absurd h0 h21⟩
  ·
   have hr016 := hco.er hc16
   refine O_a rfl ?_
   refine O_nil (T_kp [0, 4] rfl ?_)
   refine T_seq (T_block (T_loop (fun m E w => ∃ (f' : Nat) (a : Int) (at_ : Nat) (v1 : Value) (ns1 : List NodeV) (er wh : Int) (G' : Ghost), f' ≤ f ∧ LI s itemL r q ns.length 1 f' a at_ ns1 er wh ∧ m = f' ∧ E = ⟨[], [(0, .pointer (some ⟨p, 0, none⟩)), (4, .int .i64 a)]⟩ ∧ St ⟨w0, G, feet [.blk p 61 [.string ⟨s.toArray⟩, .int .i64 (q : Int), v, .int .i64 0, .int .i64 0], .row 42 9 v ns.length (ns.flatMap nodeC)]⟩ G' [.blk p 61 [.string ⟨s.toArray⟩, .int .i64 (at_ : Int), v1, .int .i64 er, .int .i64 wh], .row 42 9 v1 ns1.length (ns1.flatMap nodeC)] w) (L := [(0, _), (4, _)]) ⟨rfl, rfl, trivial⟩ (⟨0, a16, _, _, _, _, _, _, Nat.zero_le _, .inr ⟨he16, rfl, by omega, by omega, by omega, _, rfl, hr016⟩, rfl, rfl, hs⟩) fun m E w hI => ?_))
   obtain ⟨f', a, at_, v1, ns1, er, wh, G', hf', hI, rfl, rfl, hs⟩ := hI
   have hrg := hI.rng
   refine T_seq (T_seq (T_region rfl ?_))
   refine O_m rfl ?_
   refine O_y hs (Y_nil rfl ?_)
   refine O_y hs (Y_fieldAddr FO61_3 rfl (m := 3) rfl ?_)
   refine O_y hs (Y_ld 0 Tryz.isAgg25 rfl rfl rfl ?_)
   refine O_y hs (Y_cmpS rfl rfl rfl (fun h21 => ?_) (fun h21 => ?_))
   ·
    dsimp only [cmpP] at h21
    obtain ⟨rfl, rfl, hgo, hg1, hg2, hg3⟩ := hI.resolve_right (fun h => h.1 h21)
    obtain ⟨f1, rfl⟩ := itemL_pos hgo
    refine O_nil (T_kp [0, 4, 21] rfl ?_)
    refine T_condT rfl (T_skip ?_)
    refine T_block (T_seq (T_region rfl ?_))
    refine O_m rfl ?_
    refine O_s (S_call (H1 := [_]) hs rfl Tryz.func102 rfl (by kernel_rfl) (rrep_ok (q := at_) (by omega) hl) fun v6 G' H' _ hR hG24 hs => ?_)
    obtain ⟨mn, mx, bo, at24, er24, wh24, rfl, rfl, ho24⟩ := hR
    replace hs : St _ _ [_, _] _ := hs
    rcases ho24 with ⟨rfl, rfl, rfl, hsf, hAt⟩ | ⟨rfl, rfl, rfl, hsf, hp1, hp2⟩ | ⟨he24, rfl, wq24, rfl, hsf, hp1, hp2⟩
    ·
     refine O_m rfl ?_
     refine O_y hs (Y_extract rfl rfl ?_)
     refine O_y hs (Y_extract rfl rfl ?_)
     refine O_s (S_alloc hs Tryz.zeroValue42 (cs := [_, _, _, _, _, _, _, _, _]) rfl fun b5 _ hs => ?_)
     refine O_n (S_stA hs Tryz.sizeOf42 rfl rfl (vs := [_, _, _, _, _, _, _, _, _]) rfl (rfl) (by simp) (cs' := [_, _, _, _, _, _, _, _, _]) rfl fun _ hs => ?_)
     refine O_a rfl ?_
     refine O_nil (T_kp [0, 4, 5, 6] rfl ?_)
     refine T_seq (T_seq (T_region rfl ?_))
     refine O_m rfl ?_
     refine O_y hs (Y_not rfl ?_)
     refine O_nil (T_kp [0, 4, 5, 28] rfl ?_)
     refine T_condT rfl (T_seq (T_region rfl ?_))
     refine O_m rfl ?_
     refine O_a rfl ?_
     refine O_nil (T_kp [2] rfl ?_)
     refine T_ret ?_
     have hs := hs.f2
     have hs := hs.f2
     refine Rt_fin (vs := [_]) Tryz.results91 rfl ⟨rfl, trivial⟩ ?_
     try dsimp only [tup]
     exact ⟨_, _, hs.weak hs.le (Ghost.le.refl _) (List.sublist_append_left [_, _] _), _, _, _, _, _, _, rfl, rfl, .inl ⟨rfl, rfl, by rw [itemL_stop hgo hsf, hAt]⟩⟩
    ·
     refine O_m rfl ?_
     refine O_y hs (Y_extract rfl rfl ?_)
     refine O_y hs (Y_extract rfl rfl ?_)
     refine O_s (S_alloc hs Tryz.zeroValue42 (cs := [_, _, _, _, _, _, _, _, _]) rfl fun b5 _ hs => ?_)
     refine O_n (S_stA hs Tryz.sizeOf42 rfl rfl (vs := [_, _, _, _, _, _, _, _, _]) rfl (rfl) (by simp) (cs' := [_, _, _, _, _, _, _, _, _]) rfl fun _ hs => ?_)
     refine O_a rfl ?_
     refine O_nil (T_kp [0, 4, 5, 6] rfl ?_)
     refine T_seq (T_seq (T_region rfl ?_))
     refine O_m rfl ?_
     refine O_y hs (Y_not rfl ?_)
     refine O_nil (T_kp [0, 4, 5, 28] rfl ?_)
     refine T_condF rfl (T_skip ?_)
     refine T_seq (T_region rfl ?_)
     refine O_m rfl ?_
     refine O_y hs (Y_fieldAddr FO42_2 rfl (m := 5) rfl ?_)
     refine O_n (S_st hs Tryz.sizeOf3 rfl rfl rfl (by simp) (cs' := [_, _, _, _, _, _, _, _, _]) rfl fun _ hs => ?_)
     refine O_nil (T_kp [0, 5] rfl ?_)
     refine T_region rfl ?_
     refine O_m rfl ?_
     refine O_y hs (Y_ldA 0 Tryz.isAgg42 Tryz.sizeOf42 rfl rfl (vs := [_, _, _, _, _, _, _, _, _]) rfl rfl ?_)
     have hs := hs.f2
     have hs := hs.f2
     refine O_s (S_call (H1 := [_, _]) hs rfl Tryz.func53 rfl (by kernel_rfl) (rnode_ok (q := at24) (er := 0) (wh := 0) (ns := ns1) (n := (⟨8, noC, a, 0, mn, mx⟩ : NodeV)) rfl (by omega)) fun v7 G' H' _ hR hG34 hs => ?_)
     obtain ⟨x34, rfl, rfl⟩ := hR
     replace hs : St _ _ [_, _, _] _ := hs
     refine O_a rfl ?_
     have hs := hs.f1
     have hs := hs.f1
     refine O_nil ⟨_, ?_, [(0, _), (4, _)], ⟨rfl, rfl, trivial⟩, ⟨f1, _, _, _, _, 0, 0, _, by omega, .inl ⟨rfl, rfl, (show itemL s f1 (ns1.length : Int) ⟨at24, ns1 ++ [⟨8, noC, a, 0, mn, mx⟩]⟩ = some r from itemL_go hgo hsf), by omega, by omega, by rw [List.length_append]; simp only [List.length_singleton]; omega⟩, rfl, rfl, hs.weak hs.le (Ghost.le.refl _) (List.sublist_append_left [_, _] _)⟩⟩
     omega
    ·
     refine O_m rfl ?_
     refine O_y hs (Y_extract rfl rfl ?_)
     refine O_y hs (Y_extract rfl rfl ?_)
     refine O_s (S_alloc hs Tryz.zeroValue42 (cs := [_, _, _, _, _, _, _, _, _]) rfl fun b5 _ hs => ?_)
     refine O_n (S_stA hs Tryz.sizeOf42 rfl rfl (vs := [_, _, _, _, _, _, _, _, _]) rfl (rfl) (by simp) (cs' := [_, _, _, _, _, _, _, _, _]) rfl fun _ hs => ?_)
     refine O_a rfl ?_
     refine O_nil (T_kp [0, 4, 5, 6] rfl ?_)
     refine T_seq (T_seq (T_region rfl ?_))
     refine O_m rfl ?_
     refine O_y hs (Y_not rfl ?_)
     refine O_nil (T_kp [0, 4, 5, 28] rfl ?_)
     refine T_condF rfl (T_skip ?_)
     refine T_seq (T_region rfl ?_)
     refine O_m rfl ?_
     refine O_y hs (Y_fieldAddr FO42_2 rfl (m := 5) rfl ?_)
     refine O_n (S_st hs Tryz.sizeOf3 rfl rfl rfl (by simp) (cs' := [_, _, _, _, _, _, _, _, _]) rfl fun _ hs => ?_)
     refine O_nil (T_kp [0, 5] rfl ?_)
     refine T_region rfl ?_
     refine O_m rfl ?_
     refine O_y hs (Y_ldA 0 Tryz.isAgg42 Tryz.sizeOf42 rfl rfl (vs := [_, _, _, _, _, _, _, _, _]) rfl rfl ?_)
     have hs := hs.f2
     have hs := hs.f2
     refine O_s (S_call (H1 := [_, _]) hs rfl Tryz.func53 rfl (by kernel_rfl) (rnode_ok (q := at24) (er := er24) (wh := (wq24 : Int)) (ns := ns1) (n := (⟨8, noC, a, 0, mn, mx⟩ : NodeV)) rfl (by omega)) fun v8 G' H' _ hR hG34 hs => ?_)
     obtain ⟨x34, rfl, rfl⟩ := hR
     replace hs : St _ _ [_, _, _] _ := hs
     refine O_a rfl ?_
     have hs := hs.f1
     have hs := hs.f1
     refine O_nil ⟨_, ?_, [(0, _), (4, _)], ⟨rfl, rfl, trivial⟩, ⟨0, _, _, _, _, _, _, _, Nat.zero_le _, .inr ⟨he24, rfl, by omega, by omega, by rw [List.length_append]; simp only [List.length_singleton]; omega, _, rfl, itemL_err hgo hsf⟩, rfl, rfl, hs.weak hs.le (Ghost.le.refl _) (List.sublist_append_left [_, _] _)⟩⟩
     omega
   ·
    dsimp only [cmpP] at h21
    refine O_nil (T_kp [0, 4, 21] rfl ?_)
    refine T_condF rfl (T_exit ?_)
    refine T_seq (T_region rfl ?_)
    refine O_m rfl ?_
    refine O_a rfl ?_
    refine O_nil (T_kp [2] rfl ?_)
    refine T_ret ?_
    have hs := hs.f1
    have hs := hs.f1
    refine Rt_fin (vs := [_]) Tryz.results91 rfl ⟨rfl, trivial⟩ ?_
    try dsimp only [tup]
    exact ⟨_, _, hs, _, _, _, _, _, _, rfl, rfl, hI.out fun h0 _ => absurd h0 h21⟩
 ·
  have hlt8 := isB_lt hk8
  refine O_s (S_call (H1 := [_]) hs rfl Tryz.func52 rfl (by kernel_rfl) (take_0t (q := q) (by omega) hl hk8) fun v9 G' H' _ hR hG8 hs => ?_)
  obtain ⟨rfl, rfl⟩ := hR
  replace hs : St _ _ [_, _] _ := hs
  refine O_nil (T_kp [0, 8] rfl ?_)
  obtain ⟨ra, hra, hco⟩ := itemF_neg hr hk8
  refine T_condT rfl (T_seq (T_region rfl ?_))
  refine O_m rfl ?_
  have hs := hs.f1
  have hs := hs.f1
  refine O_s (S_call (H1 := [_, _]) hs rfl Tryz.func91 rfl (by kernel_rfl) (ihi f (Nat.le_refl _) _ p _ (q + 1 : Nat) ns ra (by omega) hl (by omega) hra) fun v10 G' H' _ hR hG10 hs => ?_)
  obtain ⟨a10, at10, w10, ns10, er10, wh10, rfl, rfl, ho10⟩ := hR
  replace hs : St _ _ [_, _] _ := hs
  rcases ho10 with ⟨rfl, rfl, hc10⟩ | ⟨he10, hp10, hz10, hm10, wq10, rfl, hc10⟩
  ·
   have hgo10 : r = .ok ((ns10.length : Int), ⟨at10, ns10 ++ [⟨7, noC, a10, 0, 0, 0⟩]⟩) := hco.go hc10
   have hgd10 := (good_all s f).2.2.2.2.2.2.1 ⟨q + 1, ns⟩ (by dsimp only; omega) a10 ⟨at10, ns10⟩ (hra.trans (by rw [hc10]))
   dsimp only at hgd10
   refine O_a rfl ?_
   refine O_nil (T_kp [0, 3] rfl ?_)
   refine T_seq (T_region rfl ?_)
   refine O_m rfl ?_
   refine O_m rfl ?_
   refine O_y hs (Y_build Tryz.zeroValue42 rfl PL42 rfl (cs := [_, _, _, _, _, _, _, _, _]) rfl ?_)
   have hs := hs.f1
   have hs := hs.f1
   refine O_s (S_call (H1 := [_, _]) hs rfl Tryz.func53 rfl (by kernel_rfl) (rnode_ok (q := at10) (er := 0) (wh := 0) (ns := ns10) (n := (⟨7, noC, a10, 0, 0, 0⟩ : NodeV)) rfl (by omega)) fun v11 G' H' _ hR hG14 hs => ?_)
   obtain ⟨x14, rfl, rfl⟩ := hR
   replace hs : St _ _ [_, _] _ := hs
   refine O_a rfl ?_
   refine O_nil (T_kp [2] rfl ?_)
   refine T_ret ?_
   have hs := hs.f1
   have hs := hs.f1
   refine Rt_fin (vs := [_]) Tryz.results91 rfl ⟨rfl, trivial⟩ ?_
   try dsimp only [tup]
   exact ⟨_, _, hs, _, _, _, _, _, _, rfl, rfl, .inl ⟨rfl, rfl, hgo10⟩⟩
  ·
   have hr010 := hco.er hc10
   refine O_a rfl ?_
   refine O_nil (T_kp [0, 3] rfl ?_)
   refine T_seq (T_region rfl ?_)
   refine O_m rfl ?_
   refine O_m rfl ?_
   refine O_y hs (Y_build Tryz.zeroValue42 rfl PL42 rfl (cs := [_, _, _, _, _, _, _, _, _]) rfl ?_)
   have hs := hs.f1
   have hs := hs.f1
   refine O_s (S_call (H1 := [_, _]) hs rfl Tryz.func53 rfl (by kernel_rfl) (rnode_ok (q := at10) (er := er10) (wh := (wq10 : Int)) (ns := ns10) (n := (⟨7, noC, a10, 0, 0, 0⟩ : NodeV)) rfl (by omega)) fun v12 G' H' _ hR hG14 hs => ?_)
   obtain ⟨x14, rfl, rfl⟩ := hR
   replace hs : St _ _ [_, _] _ := hs
   refine O_a rfl ?_
   refine O_nil (T_kp [2] rfl ?_)
   refine T_ret ?_
   have hs := hs.f1
   have hs := hs.f1
   refine Rt_fin (vs := [_]) Tryz.results91 rfl ⟨rfl, trivial⟩ ?_
   try dsimp only [tup]
   exact ⟨_, _, hs, _, _, _, _, _, _, rfl, rfl, .err hr010 he10 (by omega) (by omega) (by rw [List.length_append]; simp only [List.length_singleton]; omega)⟩

set_option maxHeartbeats 2000000 in
set_option maxRecDepth 10000 in
theorem ratom_ok {s : List UInt8} {f : Nat} (ih : ∀ f', f' ≤ f → PCR 35 2 altF s (f')) : PCR 101 1 atomF s (f + 1) := by
 intro G p v q ns r hq hl hn hr
 have hsz := bsz s
 show FnOk Tryz.prog 101 [.pointer (some ⟨p, 0, none⟩)] G [.blk p 61 [.string ⟨s.toArray⟩, .int .i64 (q : Int), v, .int .i64 0, .int .i64 0], .row 42 9 v ns.length (ns.flatMap nodeC)] fun r_ _ H' => ∃ (a : Int) (at_ : Nat) (v1 : Value) (ns1 : List NodeV) (er wh : Int), r_ = .int .i64 a ∧ H' = [.blk p 61 [.string ⟨s.toArray⟩, .int .i64 (at_ : Int), v1, .int .i64 er, .int .i64 wh], .row 42 9 v1 ns1.length (ns1.flatMap nodeC)] ∧ Out s q ns.length 1 r a at_ ns1 er wh
 refine FnOk.of_T [(0, _)] Tryz.func101 rfl Tryz.ntmps101 (by simp) rfl fun w0 hs => ?_
 refine T_seq (T_region rfl ?_)
 refine O_a rfl ?_
 refine O_nil (T_kp [0] rfl ?_)
 refine T_seq (T_seq (T_region rfl ?_))
 refine O_m rfl ?_
 cases hk5 : isB s q 46
 ·
  refine O_s (S_call (H1 := [_]) hs rfl Tryz.func52 rfl (by kernel_rfl) (take_0f (q := q) (by omega) hl hk5) fun v1 G' H' _ hR hG5 hs => ?_)
  obtain ⟨rfl, rfl⟩ := hR
  replace hs : St _ _ [_, _] _ := hs
  refine O_nil (T_kp [0, 5] rfl ?_)
  refine T_condF rfl (T_skip ?_)
  refine T_seq (T_seq (T_region rfl ?_))
  refine O_m rfl ?_
  cases hk11 : isB s q 33
  ·
   refine O_s (S_call (H1 := [_]) hs rfl Tryz.func52 rfl (by kernel_rfl) (take_0f (q := q) (by omega) hl hk11) fun v2 G' H' _ hR hG11 hs => ?_)
   obtain ⟨rfl, rfl⟩ := hR
   replace hs : St _ _ [_, _] _ := hs
   refine O_nil (T_kp [0, 11] rfl ?_)
   refine T_condF rfl (T_skip ?_)
   refine T_seq (T_seq (T_region rfl ?_))
   refine O_m rfl ?_
   cases hk16 : isB s q 40
   ·
    refine O_s (S_call (H1 := [_]) hs rfl Tryz.func52 rfl (by kernel_rfl) (take_0f (q := q) (by omega) hl hk16) fun v3 G' H' _ hR hG16 hs => ?_)
    obtain ⟨rfl, rfl⟩ := hR
    replace hs : St _ _ [_, _] _ := hs
    refine O_nil (T_kp [0, 16] rfl ?_)
    refine T_condF rfl (T_skip ?_)
    refine T_seq (T_seq (T_region rfl ?_))
    refine O_m rfl ?_
    cases hk28 : isB s q 91
    ·
     refine O_s (S_call (H1 := [_]) hs rfl Tryz.func52 rfl (by kernel_rfl) (take_0f (q := q) (by omega) hl hk28) fun v4 G' H' _ hR hG28 hs => ?_)
     obtain ⟨rfl, rfl⟩ := hR
     replace hs : St _ _ [_, _] _ := hs
     refine O_nil (T_kp [0, 28] rfl ?_)
     refine T_condF rfl (T_skip ?_)
     have hco := atom_6 hr hk5 hk11 hk28 hk16
     refine T_seq (T_region rfl ?_)
     refine O_m rfl ?_
     refine O_m rfl ?_
     refine O_s (S_call (H1 := [_]) hs rfl Tryz.func115 rfl (by kernel_rfl) (rchar_ok (q := q) (by omega) hl) fun v5 G' H' _ hR hG36 hs => ?_)
     obtain ⟨y36, at36, er36, wh36, rfl, rfl, ho36⟩ := hR
     replace hs : St _ _ [_, _] _ := hs
     have hy36 := y36.toNat_lt
     rcases ho36 with ⟨rfl, rfl, hc36⟩ | ⟨w36, hc36, rfl, he36, hq36, hz36⟩
     ·
      have hb36 := charP_ok hc36
      refine O_s (S_call (H1 := []) hs rfl Tryz.func73 rfl (by kernel_rfl) (rone_ok (x := y36)) fun v6 G' H' _ hR hG37 hs => ?_)
      obtain ⟨rfl, rfl⟩ := hR
      replace hs : St _ _ [_, _] _ := hs
      obtain ⟨c0, c1, c2, c3, hc4⟩ := four_of (show (addF noC y36).length = 4 from addF_len _ _)
      rw [hc4]
      refine O_y hs (Y_build Tryz.zeroValue42 rfl PL42 rfl (cs := [_, _, _, _, _, _, _, _, _]) rfl ?_)
      have hs := hs.f1
      have hs := hs.f1
      refine O_s (S_call (H1 := [_, _]) hs rfl Tryz.func53 rfl (by kernel_rfl) (rnode_ok (q := at36) (er := 0) (wh := 0) (ns := ns) (n := (leafN 3 [c0, c1, c2, c3])) rfl (by omega)) fun v7 G' H' _ hR hG39 hs => ?_)
      obtain ⟨x39, rfl, rfl⟩ := hR
      replace hs : St _ _ [_, _] _ := hs
      refine O_a rfl ?_
      refine O_nil (T_kp [2] rfl ?_)
      refine T_ret ?_
      have hs := hs.f1
      have hs := hs.f1
      refine Rt_fin (vs := [_]) Tryz.results101 rfl ⟨rfl, trivial⟩ ?_
      try dsimp only [tup]
      exact ⟨_, _, hs, _, _, _, _, _, _, rfl, rfl, .inl ⟨rfl, rfl, by rw [hco.go hc36, rng_one, hc4]; rfl⟩⟩
     ·
      refine O_s (S_call (H1 := []) hs rfl Tryz.func73 rfl (by kernel_rfl) (rone_ok (x := y36)) fun v8 G' H' _ hR hG37 hs => ?_)
      obtain ⟨rfl, rfl⟩ := hR
      replace hs : St _ _ [_, _] _ := hs
      obtain ⟨c0, c1, c2, c3, hc4⟩ := four_of (show (addF noC y36).length = 4 from addF_len _ _)
      rw [hc4]
      refine O_y hs (Y_build Tryz.zeroValue42 rfl PL42 rfl (cs := [_, _, _, _, _, _, _, _, _]) rfl ?_)
      have hs := hs.f1
      have hs := hs.f1
      refine O_s (S_call (H1 := [_, _]) hs rfl Tryz.func53 rfl (by kernel_rfl) (rnode_ok (q := at36) (er := er36) (wh := (w36 : Int)) (ns := ns) (n := (leafN 3 [c0, c1, c2, c3])) rfl (by omega)) fun v9 G' H' _ hR hG39 hs => ?_)
      obtain ⟨x39, rfl, rfl⟩ := hR
      replace hs : St _ _ [_, _] _ := hs
      refine O_a rfl ?_
      refine O_nil (T_kp [2] rfl ?_)
      refine T_ret ?_
      have hs := hs.f1
      have hs := hs.f1
      refine Rt_fin (vs := [_]) Tryz.results101 rfl ⟨rfl, trivial⟩ ?_
      try dsimp only [tup]
      exact ⟨_, _, hs, _, _, _, _, _, _, rfl, rfl, .err (hco.er hc36) he36 (by omega) (by omega) (by first | omega | (rw [List.length_append]; simp only [List.length_singleton]; omega))⟩
    ·
     have hlt28 := isB_lt hk28
     refine O_s (S_call (H1 := [_]) hs rfl Tryz.func52 rfl (by kernel_rfl) (take_0t (q := q) (by omega) hl hk28) fun v10 G' H' _ hR hG28 hs => ?_)
     obtain ⟨rfl, rfl⟩ := hR
     replace hs : St _ _ [_, _] _ := hs
     refine O_nil (T_kp [0, 28] rfl ?_)
     obtain ⟨ra, hra, hco⟩ := atom_3 hr hk5 hk11 hk28
     refine T_condT rfl (T_seq (T_region rfl ?_))
     refine O_m rfl ?_
     refine O_m rfl ?_
     refine O_s (S_call (H1 := [_]) hs rfl Tryz.func114 rfl (by kernel_rfl) (rcls_ok (q := (q + 1 : Nat)) (by omega) hl hra) fun v11 G' H' _ hR hG31 hs => ?_)
     obtain ⟨c31, at31, er31, wh31, rfl, rfl, hl4, hz31, hp31, ho31⟩ := hR
     replace hs : St _ _ [_, _] _ := hs
     obtain ⟨c0, c1, c2, c3, rfl⟩ := four_of hl4
     rcases ho31 with ⟨rfl, rfl, hc31, _⟩ | ⟨he31, wq31, rfl, hc31⟩
     ·
      refine O_y hs (Y_build Tryz.zeroValue42 rfl PL42 rfl (cs := [_, _, _, _, _, _, _, _, _]) rfl ?_)
      have hs := hs.f1
      have hs := hs.f1
      refine O_s (S_call (H1 := [_, _]) hs rfl Tryz.func53 rfl (by kernel_rfl) (rnode_ok (q := at31) (er := 0) (wh := 0) (ns := ns) (n := (leafN 3 [c0, c1, c2, c3])) rfl (by omega)) fun v12 G' H' _ hR hG33 hs => ?_)
      obtain ⟨x33, rfl, rfl⟩ := hR
      replace hs : St _ _ [_, _] _ := hs
      refine O_a rfl ?_
      refine O_nil (T_kp [2] rfl ?_)
      refine T_ret ?_
      have hs := hs.f1
      have hs := hs.f1
      refine Rt_fin (vs := [_]) Tryz.results101 rfl ⟨rfl, trivial⟩ ?_
      try dsimp only [tup]
      exact ⟨_, _, hs, _, _, _, _, _, _, rfl, rfl, .inl ⟨rfl, rfl, hco.go hc31⟩⟩
     ·
      refine O_y hs (Y_build Tryz.zeroValue42 rfl PL42 rfl (cs := [_, _, _, _, _, _, _, _, _]) rfl ?_)
      have hs := hs.f1
      have hs := hs.f1
      refine O_s (S_call (H1 := [_, _]) hs rfl Tryz.func53 rfl (by kernel_rfl) (rnode_ok (q := at31) (er := er31) (wh := (wq31 : Int)) (ns := ns) (n := (leafN 3 [c0, c1, c2, c3])) rfl (by omega)) fun v13 G' H' _ hR hG33 hs => ?_)
      obtain ⟨x33, rfl, rfl⟩ := hR
      replace hs : St _ _ [_, _] _ := hs
      refine O_a rfl ?_
      refine O_nil (T_kp [2] rfl ?_)
      refine T_ret ?_
      have hs := hs.f1
      have hs := hs.f1
      refine Rt_fin (vs := [_]) Tryz.results101 rfl ⟨rfl, trivial⟩ ?_
      try dsimp only [tup]
      exact ⟨_, _, hs, _, _, _, _, _, _, rfl, rfl, .err (hco.er hc31) he31 (by omega) (by omega) (by first | omega | (rw [List.length_append]; simp only [List.length_singleton]; omega))⟩
   ·
    have hlt16 := isB_lt hk16
    refine O_s (S_call (H1 := [_]) hs rfl Tryz.func52 rfl (by kernel_rfl) (take_0t (q := q) (by omega) hl hk16) fun v14 G' H' _ hR hG16 hs => ?_)
    obtain ⟨rfl, rfl⟩ := hR
    replace hs : St _ _ [_, _] _ := hs
    refine O_nil (T_kp [0, 16] rfl ?_)
    refine T_condT rfl (T_seq (T_seq (T_region rfl ?_)))
    refine O_m rfl ?_
    cases hk18 : isB s (q + 1 : Nat) 41
    ·
     refine O_s (S_call (H1 := [_]) hs rfl Tryz.func52 rfl (by kernel_rfl) (take_0f (q := (q + 1 : Nat)) (by omega) hl hk18) fun v15 G' H' _ hR hG18 hs => ?_)
     obtain ⟨rfl, rfl⟩ := hR
     replace hs : St _ _ [_, _] _ := hs
     refine O_nil (T_kp [0, 18] rfl ?_)
     refine T_condF rfl (T_skip ?_)
     obtain ⟨ra, hra, hco⟩ := atom_5 hr hk5 hk11 (isB_other hk16 (by decide)) hk16 hk18
     refine T_seq (T_region rfl ?_)
     refine O_m rfl ?_
     have hs := hs.f1
     have hs := hs.f1
     refine O_s (S_call (H1 := [_, _]) hs rfl Tryz.func35 rfl (by kernel_rfl) (ih f (Nat.le_refl _) _ p _ (q + 1 : Nat) ns ra (by omega) hl (by omega) hra) fun v16 G' H' _ hR hG23 hs => ?_)
     obtain ⟨a23, at23, w23, ns23, er23, wh23, rfl, rfl, ho23⟩ := hR
     replace hs : St _ _ [_, _] _ := hs
     rcases ho23 with ⟨rfl, rfl, hc23⟩ | ⟨he23, hp23, hz23, hm23, wq23, rfl, hc23⟩
     ·
      have hgo23 := hco.go hc23
      have hgd23 := (good_all s f).1 ⟨q + 1, ns⟩ (by dsimp only; omega) a23 ⟨at23, ns23⟩ (hra.trans (by rw [hc23]))
      dsimp only at hgd23
      refine O_a rfl ?_
      refine O_nil (T_kp [0, 3] rfl ?_)
      refine T_seq (T_region rfl ?_)
      refine O_m rfl ?_
      cases hn9 : isB s at23 41
      ·
       have hehn9 := unexp_nz s at23
       refine O_s (S_call (H1 := [_]) hs rfl Tryz.func113 rfl (by kernel_rfl) (need_0f (q := at23) (by omega) hl hn9) fun v17 G' H' _ hR hG25 hs => ?_)
       obtain rfl := hR
       replace hs : St _ _ [_, _] _ := hs
       refine O_nil (T_kp [3] rfl ?_)
       refine T_seq (T_region rfl ?_)
       refine O_m rfl ?_
       refine O_a rfl ?_
       refine O_nil (T_kp [2] rfl ?_)
       refine T_ret ?_
       have hs := hs.f1
       have hs := hs.f1
       refine Rt_fin (vs := [_]) Tryz.results101 rfl ⟨rfl, trivial⟩ ?_
       try dsimp only [tup]
       exact ⟨_, _, hs, _, _, _, _, _, _, rfl, rfl, .err (hgo23.2 hn9) hehn9 (by omega) (by omega) (by first | omega | (rw [List.length_append]; simp only [List.length_singleton]; omega))⟩
      ·
       have hlthn9 := isB_lt hn9
       refine O_s (S_call (H1 := [_]) hs rfl Tryz.func113 rfl (by kernel_rfl) (need_0t (q := at23) (by omega) hl hn9) fun v18 G' H' _ hR hG25 hs => ?_)
       obtain rfl := hR
       replace hs : St _ _ [_, _] _ := hs
       refine O_nil (T_kp [3] rfl ?_)
       refine T_seq (T_region rfl ?_)
       refine O_m rfl ?_
       refine O_a rfl ?_
       refine O_nil (T_kp [2] rfl ?_)
       refine T_ret ?_
       have hs := hs.f1
       have hs := hs.f1
       refine Rt_fin (vs := [_]) Tryz.results101 rfl ⟨rfl, trivial⟩ ?_
       try dsimp only [tup]
       exact ⟨_, _, hs, _, _, _, _, _, _, rfl, rfl, .inl ⟨rfl, rfl, hgo23.1 hn9⟩⟩
     ·
      have hr023 := hco.er hc23
      refine O_a rfl ?_
      refine O_nil (T_kp [0, 3] rfl ?_)
      refine T_seq (T_region rfl ?_)
      refine O_m rfl ?_
      refine O_s (S_call (H1 := [_]) hs rfl Tryz.func113 rfl (by kernel_rfl) (need_e (q := at23) (b := 41) (by omega) hl he23) fun v19 G' H' _ hR hG25 hs => ?_)
      obtain rfl := hR
      replace hs : St _ _ [_, _] _ := hs
      refine O_nil (T_kp [3] rfl ?_)
      refine T_seq (T_region rfl ?_)
      refine O_m rfl ?_
      refine O_a rfl ?_
      refine O_nil (T_kp [2] rfl ?_)
      refine T_ret ?_
      have hs := hs.f1
      have hs := hs.f1
      refine Rt_fin (vs := [_]) Tryz.results101 rfl ⟨rfl, trivial⟩ ?_
      try dsimp only [tup]
      exact ⟨_, _, hs, _, _, _, _, _, _, rfl, rfl, .err hr023 he23 (by omega) (by omega) (by first | omega | (rw [List.length_append]; simp only [List.length_singleton]; omega))⟩
    ·
     have hlt18 := isB_lt hk18
     refine O_s (S_call (H1 := [_]) hs rfl Tryz.func52 rfl (by kernel_rfl) (take_0t (q := (q + 1 : Nat)) (by omega) hl hk18) fun v20 G' H' _ hR hG18 hs => ?_)
     obtain ⟨rfl, rfl⟩ := hR
     replace hs : St _ _ [_, _] _ := hs
     refine O_nil (T_kp [0, 18] rfl ?_)
     refine T_condT rfl (T_seq (T_region rfl ?_))
     refine O_m rfl ?_
     refine O_y hs (Y_build Tryz.zeroValue42 rfl PL42 rfl (cs := [_, _, _, _, _, _, _, _, _]) rfl ?_)
     have hs := hs.f1
     have hs := hs.f1
     refine O_s (S_call (H1 := [_, _]) hs rfl Tryz.func53 rfl (by kernel_rfl) (rnode_ok (q := (q + 1 + 1 : Nat)) (er := 0) (wh := 0) (ns := ns) (n := (leafN 2 noC)) rfl (by omega)) fun v21 G' H' _ hR hG21 hs => ?_)
     obtain ⟨x21, rfl, rfl⟩ := hR
     replace hs : St _ _ [_, _] _ := hs
     refine O_a rfl ?_
     refine O_nil (T_kp [2] rfl ?_)
     refine T_ret ?_
     have hs := hs.f1
     have hs := hs.f1
     refine Rt_fin (vs := [_]) Tryz.results101 rfl ⟨rfl, trivial⟩ ?_
     try dsimp only [tup]
     exact ⟨_, _, hs, _, _, _, _, _, _, rfl, rfl, .inl ⟨rfl, rfl, atom_4 hr hk5 hk11 (isB_other hk16 (by decide)) hk16 hk18⟩⟩
  ·
   have hlt11 := isB_lt hk11
   refine O_s (S_call (H1 := [_]) hs rfl Tryz.func52 rfl (by kernel_rfl) (take_0t (q := q) (by omega) hl hk11) fun v22 G' H' _ hR hG11 hs => ?_)
   obtain ⟨rfl, rfl⟩ := hR
   replace hs : St _ _ [_, _] _ := hs
   refine O_nil (T_kp [0, 11] rfl ?_)
   refine T_condT rfl (T_seq (T_region rfl ?_))
   refine O_m rfl ?_
   refine O_y hs (Y_build Tryz.zeroValue42 rfl PL42 rfl (cs := [_, _, _, _, _, _, _, _, _]) rfl ?_)
   have hs := hs.f1
   have hs := hs.f1
   refine O_s (S_call (H1 := [_, _]) hs rfl Tryz.func53 rfl (by kernel_rfl) (rnode_ok (q := (q + 1 : Nat)) (er := 0) (wh := 0) (ns := ns) (n := (leafN 1 noC)) rfl (by omega)) fun v23 G' H' _ hR hG14 hs => ?_)
   obtain ⟨x14, rfl, rfl⟩ := hR
   replace hs : St _ _ [_, _] _ := hs
   refine O_a rfl ?_
   refine O_nil (T_kp [2] rfl ?_)
   refine T_ret ?_
   have hs := hs.f1
   have hs := hs.f1
   refine Rt_fin (vs := [_]) Tryz.results101 rfl ⟨rfl, trivial⟩ ?_
   try dsimp only [tup]
   exact ⟨_, _, hs, _, _, _, _, _, _, rfl, rfl, .inl ⟨rfl, rfl, atom_2 hr hk5 hk11⟩⟩
 ·
  have hlt5 := isB_lt hk5
  refine O_s (S_call (H1 := [_]) hs rfl Tryz.func52 rfl (by kernel_rfl) (take_0t (q := q) (by omega) hl hk5) fun v24 G' H' _ hR hG5 hs => ?_)
  obtain ⟨rfl, rfl⟩ := hR
  replace hs : St _ _ [_, _] _ := hs
  refine O_nil (T_kp [0, 5] rfl ?_)
  refine T_condT rfl (T_seq (T_region rfl ?_))
  refine O_m rfl ?_
  refine O_s (S_call (H1 := []) hs rfl Tryz.func74 rfl (by kernel_rfl) (rall_ok) fun v25 G' H' _ hR hG7 hs => ?_)
  obtain ⟨rfl, rfl⟩ := hR
  replace hs : St _ _ [_, _] _ := hs
  refine O_y hs (Y_build Tryz.zeroValue42 rfl PL42 rfl (cs := [_, _, _, _, _, _, _, _, _]) rfl ?_)
  have hs := hs.f1
  have hs := hs.f1
  refine O_s (S_call (H1 := [_, _]) hs rfl Tryz.func53 rfl (by kernel_rfl) (rnode_ok (q := (q + 1 : Nat)) (er := 0) (wh := 0) (ns := ns) (n := (leafN 3 allC)) rfl (by omega)) fun v26 G' H' _ hR hG9 hs => ?_)
  obtain ⟨x9, rfl, rfl⟩ := hR
  replace hs : St _ _ [_, _] _ := hs
  refine O_a rfl ?_
  refine O_nil (T_kp [2] rfl ?_)
  refine T_ret ?_
  have hs := hs.f1
  have hs := hs.f1
  refine Rt_fin (vs := [_]) Tryz.results101 rfl ⟨rfl, trivial⟩ ?_
  try dsimp only [tup]
  exact ⟨_, _, hs, _, _, _, _, _, _, rfl, rfl, .inl ⟨rfl, rfl, by rw [atom_1 hr hk5, rng_all]; rfl⟩⟩

theorem rd_all (s : List UInt8) : ∀ f, PCR 35 2 altF s f ∧ PCR 51 2 andF s f ∧ PCR 71 2 catF s f ∧ PCR 91 1 itemF s f ∧ PCR 101 1 atomF s f := by
  intro f
  induction f using Nat.strongRecOn with
  | ind f ih =>
    cases f with
    | zero => refine ⟨?_, ?_, ?_, ?_, ?_⟩ <;> (intro G p v q ns r hq hl hn hr; simp only [altF, andF, catF, itemF, atomF] at hr; cases hr)
    | succ f =>
      exact ⟨ralt_ok fun f' hf => (ih f' (by omega)).2.1, rand_ok fun f' hf => (ih f' (by omega)).2.2.1, rcat_ok fun f' hf => (ih f' (by omega)).2.2.2.1, ritem_ok (fun f' hf => (ih f' (by omega)).2.2.2.1) (fun f' hf => (ih f' (by omega)).2.2.2.2), ratom_ok fun f' hf => (ih f' (by omega)).1⟩


set_option maxHeartbeats 2000000 in
set_option maxRecDepth 10000 in
theorem rparse_ok {G : Ghost} {s : List UInt8} {f : Nat} {r0 : Except Er (List NodeV)} (hl : s.length ≤ 2000000) (hr : parseP s f = some r0) :
  FnOk Tryz.prog 14 [.string ⟨s.toArray⟩] G [] fun r G' H' => H' = [] ∧ ParseR G' r r0 := by
 have hsz := bsz s
 refine FnOk.of_T [(0, _)] Tryz.func14 rfl Tryz.ntmps14 (by simp) rfl fun w0 hs => ?_
 refine T_seq (T_region rfl ?_)
 refine O_a rfl ?_
 refine O_a rfl ?_
 refine O_a rfl ?_
 refine O_nil (T_kp [0] rfl ?_)
 refine T_seq (T_seq (T_region rfl ?_))
 refine O_m rfl ?_
 refine O_y hs (Y_lenS Tryz.underlying9 rfl ?_)
 refine O_y hs (Y_cmpS rfl rfl rfl (fun h8 => ?_) (fun h8 => ?_))
 ·
  dsimp only [cmpP] at h8
  refine O_nil (T_kp [0, 8] rfl ?_)
  refine T_condT rfl (T_seq (T_region rfl ?_))
  refine O_a rfl ?_
  refine O_a rfl ?_
  refine O_a rfl ?_
  refine O_nil (T_kp [2, 3, 4] rfl ?_)
  refine T_ret ?_
  refine Rt_fin (vs := [_, _, _]) Tryz.results14 rfl ⟨rfl, rfl, rfl, trivial⟩ ?_
  try dsimp only [tup]
  exact ⟨_, [], hs.done, rfl, by rw [parse_big hr (by omega)]; exact ⟨_, LstR.nil, rfl⟩⟩
 ·
  dsimp only [cmpP] at h8
  refine O_nil (T_kp [0, 8] rfl ?_)
  refine T_condF rfl (T_skip ?_)
  refine T_seq (T_region rfl ?_)
  refine O_m rfl ?_
  refine O_y hs (Y_build Tryz.zeroValue61 rfl PL61 rfl (cs := [_, _, _, _, _]) rfl ?_)
  refine O_s (S_box hs rfl (cs := [_, _, _, _, _]) rfl fun b11 _ hs => ?_)
  refine O_a rfl ?_
  refine O_nil (T_kp [0, 5] rfl ?_)
  obtain ⟨p, hpb⟩ : ∃ p, p = b11 := ⟨_, rfl⟩
  rw [← hpb] at hs
  rw [← hpb]
  clear hpb
  have hs := hs.nilRow 42 9
  obtain ⟨ra, hra, hr0⟩ := parse_open hr (by omega)
  refine T_seq (T_region rfl ?_)
  refine O_m rfl ?_
  have hs := hs.f1
  refine O_s (S_call (H1 := [_, _]) hs rfl Tryz.func35 rfl (by kernel_rfl) ((rd_all s f).1 _ p _ (0 : Nat) ([] : List NodeV) ra (by omega) hl (by show 0 + _ ≤ _; omega) hra) fun v1 G' H' _ hR hG13 hs => ?_)
  obtain ⟨a13, at13, w13, ns13, er13, wh13, rfl, rfl, ho13⟩ := hR
  replace hs : St _ _ [_, _] _ := hs
  rcases ho13 with ⟨rfl, rfl, hc13⟩ | ⟨he13, hp13, hz13, hm13, wq13, rfl, hc13⟩
  ·
   have hgd13 := (good_all s f).1 ⟨0, []⟩ (Nat.zero_le _) a13 ⟨at13, ns13⟩ (by rw [hra, hc13])
   dsimp only at hgd13
   refine O_nil (T_kp [0, 5] rfl ?_)
   refine T_seq (T_seq (T_region rfl ?_))
   refine O_m rfl ?_
   refine O_y hs (Y_nil rfl ?_)
   refine O_y hs (Y_fieldAddr FO61_3 rfl (m := 3) rfl ?_)
   refine O_y hs (Y_ld 0 Tryz.isAgg25 rfl rfl rfl ?_)
   refine O_y hs (Y_cmpT rfl rfl rfl (rfl) ?_)
   refine O_m rfl ?_
   refine O_yy 19 hs rfl rfl (Y_move rfl ?_)
   refine O_yy 19 hs rfl rfl (Y_nil rfl ?_)
   refine O_yy 19 hs rfl rfl (Y_fieldAddr FO61_1 rfl (m := 1) rfl ?_)
   refine O_yy 19 hs rfl rfl (Y_ld 0 Tryz.isAgg3 rfl rfl rfl ?_)
   refine O_yy 19 hs rfl rfl (Y_move rfl ?_)
   refine O_yy 19 hs rfl rfl (Y_lenS Tryz.underlying9 rfl ?_)
   refine O_yy 19 hs rfl rfl (Y_cmpS rfl rfl rfl (fun h26 => ?_) (fun h26 => ?_))
   ·
    dsimp only [cmpP] at h26
    refine O_y hs (Y_pickT rfl rfl ?_)
    refine O_nil (T_kp [0, 5, 27] rfl ?_)
    refine T_condT rfl (T_region rfl ?_)
    refine O_m rfl ?_
    refine O_m rfl ?_
    refine O_y hs (Y_nil rfl ?_)
    refine O_y hs (Y_fieldAddr FO61_1 rfl (m := 1) rfl ?_)
    refine O_y hs (Y_ld 0 Tryz.isAgg3 rfl rfl rfl ?_)
    have hef : ¬ (20 : Int) = 0 := by decide
    refine O_s (S_call (H1 := [_]) hs rfl Tryz.func36 rfl (by kernel_rfl) (fail_0 (q := at13) (c := 20) (w := (at13 : Int)) (by omega) hl) fun v2 G' H' _ hR hG33 hs => ?_)
    obtain rfl := hR
    replace hs : St _ _ [_, _] _ := hs
    refine O_nil (T_kp [0, 5] rfl ?_)
    refine T_seq (T_seq (T_region rfl ?_))
    refine O_m rfl ?_
    refine O_y hs (Y_nil rfl ?_)
    refine O_y hs (Y_fieldAddr FO61_3 rfl (m := 3) rfl ?_)
    refine O_y hs (Y_ld 0 Tryz.isAgg25 rfl rfl rfl ?_)
    refine O_y hs (Y_cmpT rfl rfl rfl (hef) ?_)
    refine O_nil (T_kp [0, 5, 38] rfl ?_)
    refine T_condT rfl (T_seq (T_drawS [0, 1, 2, 3, 4, 5, 6, 7, 8, 9, 10] hs (by kernel_rfl) ?_))
    replace hs := hs.drew
    refine A_take 0 rfl (by kernel_rfl) rfl hs (Y_move rfl ?_)
    refine A_take 1 rfl (by kernel_rfl) rfl hs (Y_nil rfl ?_)
    refine A_take 2 rfl (by kernel_rfl) rfl hs (Y_fieldAddr FO61_4 rfl (m := 4) rfl ?_)
    refine A_take 3 rfl (by kernel_rfl) rfl hs (Y_ld 0 Tryz.isAgg3 rfl rfl rfl ?_)
    refine A_take 4 rfl (by kernel_rfl) rfl hs (Y_move rfl ?_)
    refine A_take 5 rfl (by kernel_rfl) rfl hs (Y_nil rfl ?_)
    refine A_take 6 rfl (by kernel_rfl) rfl hs (Y_fieldAddr FO61_3 rfl (m := 3) rfl ?_)
    refine A_take 7 rfl (by kernel_rfl) rfl hs (Y_ld 0 Tryz.isAgg25 rfl rfl rfl ?_)
    refine A_take 8 rfl (by kernel_rfl) rfl hs (Y_assign rfl ?_)
    refine A_take 9 rfl (by kernel_rfl) rfl hs (Y_assign rfl ?_)
    refine A_take 10 rfl (by kernel_rfl) rfl hs (Y_assign rfl ?_)
    refine A_done (by kernel_rfl) (T_kp [2, 3, 4] rfl ?_)
    refine T_ret ?_
    refine Rt_fin (vs := [_, _, _]) Tryz.results14 rfl ⟨rfl, rfl, rfl, trivial⟩ ?_
    try dsimp only [tup]
    exact ⟨_, [], hs.done, rfl, by rw [hr0, hc13, end_1 (by dsimp only; omega), unexp_mid (by dsimp only; omega)]; exact ⟨_, LstR.nil, rfl⟩⟩
   ·
    dsimp only [cmpP] at h26
    refine O_y hs (Y_pickT rfl rfl ?_)
    refine O_nil (T_kp [0, 5, 27] rfl ?_)
    refine T_condF rfl (T_skip ?_)
    refine T_seq (T_seq (T_region rfl ?_))
    refine O_m rfl ?_
    refine O_y hs (Y_nil rfl ?_)
    refine O_y hs (Y_fieldAddr FO61_3 rfl (m := 3) rfl ?_)
    refine O_y hs (Y_ld 0 Tryz.isAgg25 rfl rfl rfl ?_)
    refine O_y hs (Y_cmpF rfl rfl rfl (fun h => h rfl) ?_)
    refine O_nil (T_kp [0, 5, 38] rfl ?_)
    refine T_condF rfl (T_skip ?_)
    refine T_seq (T_seq (T_region rfl ?_))
    refine O_m rfl ?_
    refine O_y hs (Y_nil rfl ?_)
    refine O_y hs (Y_fieldAddr FO61_2 rfl (m := 2) rfl ?_)
    refine O_y hs (Y_ld 0 Tryz.isAgg24 rfl rfl rfl ?_)
    refine O_y hs (Y_lenOwn 1 rfl Tryz.underlying24 rfl hs ?_)
    refine O_y hs (Y_cmpS rfl rfl rfl (fun h52 => ?_) (fun h52 => ?_))
    ·
     dsimp only [cmpP] at h52
     refine O_nil (T_kp [0, 5, 52] rfl ?_)
     refine T_condT rfl (T_seq (T_region rfl ?_))
     refine O_m rfl ?_
     refine O_y hs (Y_lenS Tryz.underlying9 rfl ?_)
     refine O_a rfl ?_
     refine O_a rfl ?_
     refine O_a rfl ?_
     refine O_nil (T_kp [2, 3, 4] rfl ?_)
     refine T_ret ?_
     refine Rt_fin (vs := [_, _, _]) Tryz.results14 rfl ⟨rfl, rfl, rfl, trivial⟩ ?_
     try dsimp only [tup]
     exact ⟨_, [], hs.done, rfl, by rw [hr0, hc13, end_2 (by dsimp only; omega) (by dsimp only; omega)]; exact ⟨_, LstR.nil, rfl⟩⟩
    ·
     dsimp only [cmpP] at h52
     refine O_nil (T_kp [0, 5, 52] rfl ?_)
     refine T_condF rfl (T_skip ?_)
     refine T_seq (T_region rfl ?_)
     refine O_m rfl ?_
     refine O_y hs (Y_nil rfl ?_)
     refine O_y hs (Y_fieldAddr FO61_2 rfl (m := 2) rfl ?_)
     refine O_y hs (Y_ld 0 Tryz.isAgg24 rfl rfl rfl ?_)
     refine O_a rfl ?_
     refine O_a rfl ?_
     refine O_a rfl ?_
     refine O_nil (T_kp [2, 3, 4] rfl ?_)
     refine T_ret ?_
     have hs := hs.f1
     refine Rt_fin (vs := [_, _, _]) Tryz.results14 rfl ⟨rfl, rfl, rfl, trivial⟩ ?_
     try dsimp only [tup]
     have hr1 : r0 = .ok ns13 := by rw [hr0, hc13, end_3 (by dsimp only; omega) (by dsimp only; omega)]
     obtain ⟨_, _, hf, hs⟩ := hs.fixRow noM
     exact ⟨_, [], hs.done, rfl, by rw [hr1]; exact ⟨_, rx_of hf (parse_cls (hr.trans (congrArg some hr1))), rfl⟩⟩
  ·
   refine O_nil (T_kp [0, 5] rfl ?_)
   refine T_seq (T_seq (T_region rfl ?_))
   refine O_m rfl ?_
   refine O_y hs (Y_nil rfl ?_)
   refine O_y hs (Y_fieldAddr FO61_3 rfl (m := 3) rfl ?_)
   refine O_y hs (Y_ld 0 Tryz.isAgg25 rfl rfl rfl ?_)
   refine O_y hs (Y_cmpF rfl rfl rfl (he13) ?_)
   refine O_m rfl ?_
   refine O_no 19 rfl rfl ?_
   refine O_no 19 rfl rfl ?_
   refine O_no 19 rfl rfl ?_
   refine O_no 19 rfl rfl ?_
   refine O_no 19 rfl rfl ?_
   refine O_no 19 rfl rfl ?_
   refine O_no 19 rfl rfl ?_
   refine O_y hs (Y_pickF rfl rfl ?_)
   refine O_nil (T_kp [0, 5, 27] rfl ?_)
   refine T_condF rfl (T_skip ?_)
   refine T_seq (T_seq (T_region rfl ?_))
   refine O_m rfl ?_
   refine O_y hs (Y_nil rfl ?_)
   refine O_y hs (Y_fieldAddr FO61_3 rfl (m := 3) rfl ?_)
   refine O_y hs (Y_ld 0 Tryz.isAgg25 rfl rfl rfl ?_)
   refine O_y hs (Y_cmpT rfl rfl rfl (he13) ?_)
   refine O_nil (T_kp [0, 5, 38] rfl ?_)
   refine T_condT rfl (T_seq (T_drawS [0, 1, 2, 3, 4, 5, 6, 7, 8, 9, 10] hs (by kernel_rfl) ?_))
   replace hs := hs.drew
   refine A_take 0 rfl (by kernel_rfl) rfl hs (Y_move rfl ?_)
   refine A_take 1 rfl (by kernel_rfl) rfl hs (Y_nil rfl ?_)
   refine A_take 2 rfl (by kernel_rfl) rfl hs (Y_fieldAddr FO61_4 rfl (m := 4) rfl ?_)
   refine A_take 3 rfl (by kernel_rfl) rfl hs (Y_ld 0 Tryz.isAgg3 rfl rfl rfl ?_)
   refine A_take 4 rfl (by kernel_rfl) rfl hs (Y_move rfl ?_)
   refine A_take 5 rfl (by kernel_rfl) rfl hs (Y_nil rfl ?_)
   refine A_take 6 rfl (by kernel_rfl) rfl hs (Y_fieldAddr FO61_3 rfl (m := 3) rfl ?_)
   refine A_take 7 rfl (by kernel_rfl) rfl hs (Y_ld 0 Tryz.isAgg25 rfl rfl rfl ?_)
   refine A_take 8 rfl (by kernel_rfl) rfl hs (Y_assign rfl ?_)
   refine A_take 9 rfl (by kernel_rfl) rfl hs (Y_assign rfl ?_)
   refine A_take 10 rfl (by kernel_rfl) rfl hs (Y_assign rfl ?_)
   refine A_done (by kernel_rfl) (T_kp [2, 3, 4] rfl ?_)
   refine T_ret ?_
   refine Rt_fin (vs := [_, _, _]) Tryz.results14 rfl ⟨rfl, rfl, rfl, trivial⟩ ?_
   try dsimp only [tup]
   exact ⟨_, [], hs.done, rfl, by rw [hr0, hc13]; exact ⟨_, LstR.nil, rfl⟩⟩

end Go.Proofs.YtkmgbcjfidpmgaaGreatDoor
