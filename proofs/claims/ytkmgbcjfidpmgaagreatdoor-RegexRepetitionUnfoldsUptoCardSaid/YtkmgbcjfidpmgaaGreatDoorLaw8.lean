import Derived.Test.YtkmgbcjfidpmgaaGreatDoorExWalks9
import Derived.Test.YtkmgbcjfidpmgaaGreatDoorProg
import Derived.Test.YtkmgbcjfidpmgaaGreatDoorSame
import Derived.Test.YtkmgbcjfidpmgaaGreatDoorExThin
import Derived.Test.YtkmgbcjfidpmgaaGreatDoorShelf
namespace Go.Proofs.YtkmgbcjfidpmgaaGreatDoor
open Go Go.Ex Go.RowKit


theorem Y_boolEq1 {x : Cx} {W : World → Prop} {E : Env} {K : Value → Prop} {d : Option Tmp} {ty : TypeId} {pos : String} {aft : Array Edge} {g : Option (Nat × Bool)} {o p : Operand} {xt yt : TypeId} {a b : Bool} (hu : x.P.underlying xt = some .bool) (h1 : ev E o = some (.bool a)) (h2 : ev E p = some (.bool b)) (hab : a = b) (k : K (.bool true)) : Y x W ⟨d, .binOp .eql xt o p yt, ty, pos, aft, g⟩ E K :=
  Y_boolEqS hu h1 h2 (fun _ => k) (fun h => absurd hab h)
theorem null_ok' {G : Ghost} {v : Value} {l : List NodeV} {x : Bool} (hx : Rx G v l) (hl : l.length ≤ 1000000000) (h : matchF l [] = x) : FnOk Tryz.prog 26 [v] G [] fun r _ H' => H' = [] ∧ r = .bool x := by have := null_ok hx hl; rw [h] at this; exact this


theorem rep_ok2 {k : Nat} {mx : Int} {a : Rg} (hx : (k ≤ 15 ∧ mx = -1) ∨ (k ≤ 15 ∧ mx ≤ 16 ∧ (k : Int) ≤ mx)) (ha : TreeOk a) : TreeOk (.rep (k : Int) mx a) := by
  refine ⟨by omega, by omega, by omega, ?_, ha⟩
  rcases hx with h | h
  · exact .inl h.2
  · exact .inr h.2.2


set_option maxHeartbeats 4000000 in
set_option maxRecDepth 10000 in
theorem lawRep {G : Ghost} {va vw : Value} {a w : List UInt8} {b : UInt8} (ha : Bytes G va a) (hla : a.length ≤ 1048576) (hw : Bytes G vw w) (hlw : w.length ≤ 1048576) (hT : Tab G) :
  FnOk Tryz.prog 8 [va, .int .u8 (b.toNat : Int), vw] G [] fun r _ H' => H' = [] ∧ r = .bool true := by
 obtain ⟨Aa, ca, rfl, _⟩ := id ha
 obtain ⟨Aw, cw, rfl, _⟩ := id hw
 have hb := b.toNat_lt
 refine FnOk.of_T [(0, _), (1, _), (2, _)] Tryz.func8 rfl Tryz.ntmps8 (by simp) rfl fun w0 hs => ?_
 have ha0 := ha
 have hw0 := hw
 have hT0 := hT
 refine T_seq (T_region rfl ?_)
 refine O_a rfl ?_
 refine O_nil (T_kp [0, 1, 2] rfl ?_)
 refine T_seq (T_region rfl ?_)
 refine O_s (S_call (H1 := []) hs rfl Tryz.func12 rfl (by kernel_rfl) (sanity_ok hT) fun v1 G' H' _ hR hG16 hs => ?_)
 obtain ⟨rfl, rfl⟩ := hR
 replace hs : St _ _ [] _ := hs
 replace ha := ha.mono hG16
 replace hw := hw.mono hG16
 replace hT := hT.mono hG16
 refine O_a rfl ?_
 refine O_nil (T_kp [0, 1, 2, 7] rfl ?_)
 refine T_seq (T_region rfl ?_)
 refine O_m rfl ?_
 refine O_s (S_call (H1 := []) hs rfl Tryz.func19 rfl (by kernel_rfl) (small_ok (n := 8) hw) fun v2 G' H' _ hR hG18 hs => ?_)
 obtain ⟨rfl, hw18⟩ := hR
 replace hs : St _ _ [] _ := hs
 replace ha := ha.mono hG18
 replace hw := hw.mono hG18
 replace hT := hT.mono hG18
 obtain ⟨W, hWe⟩ : ∃ W, W = w.take 8 := ⟨_, rfl⟩
 have hWl : W.length ≤ 8 := by rw [hWe, List.length_take]; omega
 rw [← hWe] at hw18
 obtain ⟨Aw18, cw18, rfl, _⟩ := id hw18
 refine O_a rfl ?_
 refine O_nil (T_kp [0, 1, 7, 8] rfl ?_)
 refine T_seq (T_region rfl ?_)
 refine O_m rfl ?_
 refine O_s (S_call (H1 := []) hs rfl Tryz.func16 rfl (by kernel_rfl) (made_ok (most := 12) (by decide) 1048576 _ _ a (by omega) (Nat.le_refl _) ha) fun v3 G' H' _ hR hG20 hs => ?_)
 obtain ⟨rfl, _, hx20, ⟨t20, hok20, hsh20, rfl⟩, hlx20⟩ := hR
 replace hs : St _ _ [] _ := hs
 replace ha := ha.mono hG20
 replace hw := hw.mono hG20
 replace hT := hT.mono hG20
 replace hw18 := hw18.mono hG20
 rw [nodesT_len] at hlx20
 obtain ⟨Ax20, cx20, rfl⟩ := LstR.slice hx20
 refine O_a rfl ?_
 refine O_nil (T_kp [1, 7, 8, 9] rfl ?_)
 refine T_seq (T_region rfl ?_)
 refine O_m rfl ?_
 obtain ⟨k0, hk0⟩ : ∃ k, k = b.toNat % 4 := ⟨_, rfl⟩
 obtain ⟨k1, hk1⟩ : ∃ k, k = b.toNat % 4 + b.toNat / 4 % 4 := ⟨_, rfl⟩
 refine O_y hs (Y_rem (c := (k0 : Int)) rfl rfl (by omega) (by omega) (by omega) ?_)
 refine O_y hs (Y_conv Tryz.underlying5 Tryz.underlying3 (c := (k0 : Int)) rfl (by rw [IntKind.wrap_i64]; omega) ?_)
 refine O_a rfl ?_
 refine O_nil (T_kp [1, 7, 8, 9, 10] rfl ?_)
 refine T_seq (T_region rfl ?_)
 refine O_m rfl ?_
 refine O_m rfl ?_
 refine O_y hs (Y_quoU (c := ((b.toNat / 4 : Nat) : Int)) rfl rfl (by omega) (by omega) (by omega) ?_)
 refine O_y hs (Y_rem (c := ((b.toNat / 4 % 4 : Nat) : Int)) rfl rfl (by omega) (by omega) (by omega) ?_)
 refine O_y hs (Y_conv Tryz.underlying5 Tryz.underlying3 (c := ((b.toNat / 4 % 4 : Nat) : Int)) rfl (by rw [IntKind.wrap_i64]; omega) ?_)
 refine O_y hs (Y_add (c := (k1 : Int)) rfl rfl (by omega) (by omega) ?_)
 refine O_a rfl ?_
 refine O_nil (T_kp [1, 7, 8, 9, 10, 11] rfl ?_)
 refine T_seq (T_region rfl ?_)
 refine O_m rfl ?_
 refine O_m rfl ?_
 refine O_y hs (Y_build Tryz.zeroValue42 rfl PL42 rfl (cs := [_, _, _, _, _, _, _, _, _]) rfl ?_)
 refine O_s (S_alloc hs Tryz.zeroValue42 (cs := [_, _, _, _, _, _, _, _, _]) rfl fun b12 _ hs => ?_)
 refine O_n (S_stA hs Tryz.sizeOf42 rfl rfl (vs := [_, _, _, _, _, _, _, _, _]) rfl (rfl) (by simp) (cs' := [_, _, _, _, _, _, _, _, _]) rfl fun _ hs => ?_)
 refine O_nil (T_kp [1, 7, 8, 9, 10, 11, 12] rfl ?_)
 refine T_seq (T_region rfl ?_)
 refine O_m rfl ?_
 refine O_y hs (Y_sub (c := ((k0 : Int) - 1)) rfl rfl (by omega) (by omega) ?_)
 refine O_y hs (Y_max (c := ((k0 - 1 : Nat) : Int)) rfl rfl (by omega) ?_)
 refine O_m rfl ?_
 refine O_y hs (Y_sub (c := ((k1 : Int) - 1)) rfl rfl (by omega) (by omega) ?_)
 refine O_y hs (Y_build Tryz.zeroValue42 rfl PL42 rfl (cs := [_, _, _, _, _, _, _, _, _]) rfl ?_)
 refine O_s (S_alloc hs Tryz.zeroValue42 (cs := [_, _, _, _, _, _, _, _, _]) rfl fun b13 _ hs => ?_)
 refine O_n (S_stA hs Tryz.sizeOf42 rfl rfl (vs := [_, _, _, _, _, _, _, _, _]) rfl (rfl) (by simp) (cs' := [_, _, _, _, _, _, _, _, _]) rfl fun _ hs => ?_)
 refine O_nil (T_kp [1, 7, 8, 9, 10, 12, 13] rfl ?_)
 refine T_seq (T_seq (T_region rfl ?_))
 refine O_m rfl ?_
 refine O_y hs (Y_cmpS rfl rfl rfl (fun h40 => ?_) (fun h40 => ?_))
 ·
  dsimp only [cmpP] at h40
  refine O_nil (T_kp [7, 8, 9, 10, 12, 13, 40] rfl ?_)
  refine T_condT rfl (T_seq (T_region rfl ?_))
  refine O_y hs (Y_fieldAddr FO42_5 rfl (m := 8) rfl ?_)
  have hs := hs.f1
  refine O_n (S_st hs Tryz.sizeOf3 rfl rfl rfl (by simp) (cs' := [_, _, _, _, _, _, _, _, _]) rfl fun _ hs => ?_)
  refine O_nil (T_kp [7, 8, 9, 10, 12, 13] rfl ?_)
  refine T_region rfl ?_
  refine O_y hs (Y_fieldAddr FO42_5 rfl (m := 8) rfl ?_)
  have hs := hs.f1
  refine O_n (S_st hs Tryz.sizeOf3 rfl rfl rfl (by simp) (cs' := [_, _, _, _, _, _, _, _, _]) rfl fun _ hs => ?_)
  refine O_nil (T_kp [7, 8, 9, 10, 12, 13] rfl ?_)
  refine T_seq (T_region rfl ?_)
  refine O_y hs (Y_ldA 1 Tryz.isAgg42 Tryz.sizeOf42 rfl rfl (vs := [_, _, _, _, _, _, _, _, _]) rfl rfl ?_)
  refine O_m rfl ?_
  refine O_s (S_call (H1 := []) hs rfl Tryz.func22 rfl (by kernel_rfl) (run_ok (n := ⟨8, noC, 0, 0, (k0 : Int), -1⟩) hx20 noC_ok (by rw [nodesT_len]; omega)) fun v4 G' H' _ hR hG45 hs => ?_)
  obtain ⟨rfl, hU45⟩ := hR
  replace hs : St _ _ [_, _] _ := hs
  replace ha := ha.mono hG45
  replace hw := hw.mono hG45
  replace hT := hT.mono hG45
  replace hw18 := hw18.mono hG45
  replace hx20 := hx20.mono hG45
  rw [unF_rep] at hU45
  refine O_m rfl ?_
  refine O_s (S_call (H1 := []) hs rfl Tryz.func21 rfl (by kernel_rfl) (match_ok hU45 hw18 (by rw [nodesT_len]; (try simp only [sizeT]); omega) (by first | omega | (simp only [List.length_take, List.length_drop]; omega))) fun v5 G' H' _ hR hG47 hs => ?_)
  obtain ⟨rfl, rfl⟩ := hR
  replace hs : St _ _ [_, _] _ := hs
  replace ha := ha.mono hG47
  replace hw := hw.mono hG47
  replace hT := hT.mono hG47
  replace hw18 := hw18.mono hG47
  replace hx20 := hx20.mono hG47
  replace hU45 := hU45.mono hG47
  refine O_a rfl ?_
  refine O_nil (T_kp [7, 8, 9, 10, 12, 13, 14] rfl ?_)
  refine T_seq (T_region rfl ?_)
  refine O_m rfl ?_
  refine O_y hs (Y_cmpS rfl rfl rfl (fun h49 => ?_) (fun h49 => ?_))
  ·
   dsimp only [cmpP] at h49
   refine O_m rfl ?_
   refine O_yy 50 hs rfl rfl (Y_move rfl ?_)
   refine O_yy 50 hs rfl rfl (Y_len Tryz.underlying30 rfl ?_)
   refine O_yy 50 hs rfl rfl (Y_cmpS rfl rfl rfl (fun h53 => ?_) (fun h53 => ?_))
   ·
    dsimp only [cmpP] at h53
    refine O_y hs (Y_pickT rfl rfl ?_)
    refine O_a rfl ?_
    refine O_nil (T_kp [7, 8, 9, 12, 13, 14, 15] rfl ?_)
    refine T_seq (T_seq (T_region rfl ?_))
    refine O_y hs (Y_fieldAddr FO42_5 rfl (m := 8) rfl ?_)
    refine O_y hs (Y_ld 1 Tryz.isAgg3 rfl rfl rfl ?_)
    refine O_y hs (Y_cmpF rfl rfl rfl (by decide) ?_)
    refine O_nil (T_kp [7, 8, 9, 13, 14, 15, 57] rfl ?_)
    refine T_condF rfl (T_skip ?_)
    refine T_seq (T_region rfl ?_)
    refine O_m rfl ?_
    refine O_m rfl ?_
    refine O_yy 65 hs rfl rfl (Y_move rfl ?_)
    refine O_yy 65 hs rfl rfl (Y_move rfl ?_)
    refine O_yy 65 hs rfl rfl (Y_move rfl ?_)
    refine O_no 68 rfl rfl ?_
    refine O_no 68 rfl rfl ?_
    refine O_no 68 rfl rfl ?_
    refine O_no 68 rfl rfl ?_
    refine O_no 68 rfl rfl ?_
    refine O_no 68 rfl rfl ?_
    refine O_no 68 rfl rfl ?_
    refine O_yy 65 hs rfl rfl (Y_pickT rfl rfl ?_)
    refine O_yy 65 hs rfl rfl (Y_boolEq1 Tryz.underlying4 rfl rfl (by rw [match_repU hok20 (by omega) (by omega), decide_eq_true (show k0 = 0 by omega), decide_eq_true (show W.length = 0 by omega)]; rfl) ?_)
    refine O_y hs (Y_pickT rfl rfl ?_)
    refine O_a rfl ?_
    refine O_nil (T_kp [6] rfl ?_)
    refine T_ret ?_
    refine Rt_fin (vs := [_]) Tryz.results8 rfl ⟨rfl, trivial⟩ ?_
    try dsimp only [tup]
    exact ⟨_, [], hs.done, rfl, rfl⟩
   ·
    dsimp only [cmpP] at h53
    refine O_y hs (Y_pickT rfl rfl ?_)
    refine O_a rfl ?_
    refine O_nil (T_kp [7, 8, 9, 12, 13, 14, 15] rfl ?_)
    refine T_seq (T_seq (T_region rfl ?_))
    refine O_y hs (Y_fieldAddr FO42_5 rfl (m := 8) rfl ?_)
    refine O_y hs (Y_ld 1 Tryz.isAgg3 rfl rfl rfl ?_)
    refine O_y hs (Y_cmpF rfl rfl rfl (by decide) ?_)
    refine O_nil (T_kp [7, 8, 9, 13, 14, 15, 57] rfl ?_)
    refine T_condF rfl (T_skip ?_)
    refine T_seq (T_region rfl ?_)
    refine O_m rfl ?_
    refine O_m rfl ?_
    refine O_yy 65 hs rfl rfl (Y_move rfl ?_)
    refine O_yy 65 hs rfl rfl (Y_move rfl ?_)
    refine O_yy 65 hs rfl rfl (Y_move rfl ?_)
    refine O_yy 68 hs rfl rfl (Y_move rfl ?_)
    refine O_yy 68 hs rfl rfl (Y_ldA 0 Tryz.isAgg42 Tryz.sizeOf42 rfl rfl (vs := [_, _, _, _, _, _, _, _, _]) rfl rfl ?_)
    refine O_yy 68 hs rfl rfl (Y_move rfl ?_)
    refine O_yes 68 rfl rfl (S_call (H1 := []) hs rfl Tryz.func22 rfl (by kernel_rfl) (run_ok (n := ⟨8, noC, 0, 0, ((k0 - 1 : Nat) : Int), -1⟩) hx20 noC_ok (by rw [nodesT_len]; omega)) fun v6 G' H' _ hR hG72 hs => ?_)
    obtain ⟨rfl, hU72⟩ := hR
    replace hs : St _ _ [_, _] _ := hs
    replace ha := ha.mono hG72
    replace hw := hw.mono hG72
    replace hT := hT.mono hG72
    replace hw18 := hw18.mono hG72
    replace hx20 := hx20.mono hG72
    replace hU45 := hU45.mono hG72
    rw [unF_rep] at hU72
    refine O_yes 68 rfl rfl (S_call (H1 := []) hs rfl Tryz.func20 rfl (by kernel_rfl) (rbin_ok (kk := 4) hx20 hU72 (by rw [nodesT_len]; omega) (by rw [nodesT_len]; (try simp only [sizeT]); omega) (IsTree.rng ⟨_, rep_ok2 (.inl ⟨by omega, rfl⟩) hok20, hsh20, rfl⟩ (by rw [nodesT_len]; (try simp only [sizeT]); omega))) fun v7 G' H' _ hR hG73 hs => ?_)
    obtain ⟨rfl, hU73⟩ := hR
    replace hs : St _ _ [_, _] _ := hs
    replace ha := ha.mono hG73
    replace hw := hw.mono hG73
    replace hT := hT.mono hG73
    replace hw18 := hw18.mono hG73
    replace hx20 := hx20.mono hG73
    replace hU45 := hU45.mono hG73
    replace hU72 := hU72.mono hG73
    rw [binF_nodes (.inl rfl)] at hU73
    change Rx _ _ (nodesT 0 (.cat t20 (.rep ((k0 - 1 : Nat) : Int) (-1) t20))) at hU73
    refine O_yy 68 hs rfl rfl (Y_move rfl ?_)
    refine O_yes 68 rfl rfl (S_call (H1 := []) hs rfl Tryz.func21 rfl (by kernel_rfl) (match_ok hU73 hw18 (by rw [nodesT_len]; (try simp only [sizeT]); omega) (by first | omega | (simp only [List.length_take, List.length_drop]; omega))) fun v8 G' H' _ hR hG75 hs => ?_)
    obtain ⟨rfl, rfl⟩ := hR
    replace hs : St _ _ [_, _] _ := hs
    replace ha := ha.mono hG75
    replace hw := hw.mono hG75
    replace hT := hT.mono hG75
    replace hw18 := hw18.mono hG75
    replace hx20 := hx20.mono hG75
    replace hU45 := hU45.mono hG75
    replace hU72 := hU72.mono hG75
    replace hU73 := hU73.mono hG75
    refine O_yy 65 hs rfl rfl (Y_pickF rfl rfl ?_)
    refine O_yy 65 hs rfl rfl (Y_boolEq1 Tryz.underlying4 rfl rfl (by rw [match_repU hok20 (by omega) (by omega), decide_eq_false (show ¬ W.length = 0 by omega), Bool.and_false, Bool.false_or]) ?_)
    refine O_y hs (Y_pickT rfl rfl ?_)
    refine O_a rfl ?_
    refine O_nil (T_kp [6] rfl ?_)
    refine T_ret ?_
    refine Rt_fin (vs := [_]) Tryz.results8 rfl ⟨rfl, trivial⟩ ?_
    try dsimp only [tup]
    exact ⟨_, [], hs.done, rfl, rfl⟩
  ·
   dsimp only [cmpP] at h49
   refine O_m rfl ?_
   refine O_no 50 rfl rfl ?_
   refine O_no 50 rfl rfl ?_
   refine O_no 50 rfl rfl ?_
   refine O_y hs (Y_pickF rfl rfl ?_)
   refine O_a rfl ?_
   refine O_nil (T_kp [7, 8, 9, 12, 13, 14, 15] rfl ?_)
   refine T_seq (T_seq (T_region rfl ?_))
   refine O_y hs (Y_fieldAddr FO42_5 rfl (m := 8) rfl ?_)
   refine O_y hs (Y_ld 1 Tryz.isAgg3 rfl rfl rfl ?_)
   refine O_y hs (Y_cmpF rfl rfl rfl (by decide) ?_)
   refine O_nil (T_kp [7, 8, 9, 13, 14, 15, 57] rfl ?_)
   refine T_condF rfl (T_skip ?_)
   refine T_seq (T_region rfl ?_)
   refine O_m rfl ?_
   refine O_m rfl ?_
   refine O_yy 65 hs rfl rfl (Y_move rfl ?_)
   refine O_yy 65 hs rfl rfl (Y_move rfl ?_)
   refine O_yy 65 hs rfl rfl (Y_move rfl ?_)
   refine O_yy 68 hs rfl rfl (Y_move rfl ?_)
   refine O_yy 68 hs rfl rfl (Y_ldA 0 Tryz.isAgg42 Tryz.sizeOf42 rfl rfl (vs := [_, _, _, _, _, _, _, _, _]) rfl rfl ?_)
   refine O_yy 68 hs rfl rfl (Y_move rfl ?_)
   refine O_yes 68 rfl rfl (S_call (H1 := []) hs rfl Tryz.func22 rfl (by kernel_rfl) (run_ok (n := ⟨8, noC, 0, 0, ((k0 - 1 : Nat) : Int), -1⟩) hx20 noC_ok (by rw [nodesT_len]; omega)) fun v9 G' H' _ hR hG72 hs => ?_)
   obtain ⟨rfl, hU72⟩ := hR
   replace hs : St _ _ [_, _] _ := hs
   replace ha := ha.mono hG72
   replace hw := hw.mono hG72
   replace hT := hT.mono hG72
   replace hw18 := hw18.mono hG72
   replace hx20 := hx20.mono hG72
   replace hU45 := hU45.mono hG72
   rw [unF_rep] at hU72
   refine O_yes 68 rfl rfl (S_call (H1 := []) hs rfl Tryz.func20 rfl (by kernel_rfl) (rbin_ok (kk := 4) hx20 hU72 (by rw [nodesT_len]; omega) (by rw [nodesT_len]; (try simp only [sizeT]); omega) (IsTree.rng ⟨_, rep_ok2 (.inl ⟨by omega, rfl⟩) hok20, hsh20, rfl⟩ (by rw [nodesT_len]; (try simp only [sizeT]); omega))) fun v10 G' H' _ hR hG73 hs => ?_)
   obtain ⟨rfl, hU73⟩ := hR
   replace hs : St _ _ [_, _] _ := hs
   replace ha := ha.mono hG73
   replace hw := hw.mono hG73
   replace hT := hT.mono hG73
   replace hw18 := hw18.mono hG73
   replace hx20 := hx20.mono hG73
   replace hU45 := hU45.mono hG73
   replace hU72 := hU72.mono hG73
   rw [binF_nodes (.inl rfl)] at hU73
   change Rx _ _ (nodesT 0 (.cat t20 (.rep ((k0 - 1 : Nat) : Int) (-1) t20))) at hU73
   refine O_yy 68 hs rfl rfl (Y_move rfl ?_)
   refine O_yes 68 rfl rfl (S_call (H1 := []) hs rfl Tryz.func21 rfl (by kernel_rfl) (match_ok hU73 hw18 (by rw [nodesT_len]; (try simp only [sizeT]); omega) (by first | omega | (simp only [List.length_take, List.length_drop]; omega))) fun v11 G' H' _ hR hG75 hs => ?_)
   obtain ⟨rfl, rfl⟩ := hR
   replace hs : St _ _ [_, _] _ := hs
   replace ha := ha.mono hG75
   replace hw := hw.mono hG75
   replace hT := hT.mono hG75
   replace hw18 := hw18.mono hG75
   replace hx20 := hx20.mono hG75
   replace hU45 := hU45.mono hG75
   replace hU72 := hU72.mono hG75
   replace hU73 := hU73.mono hG75
   refine O_yy 65 hs rfl rfl (Y_pickF rfl rfl ?_)
   refine O_yy 65 hs rfl rfl (Y_boolEq1 Tryz.underlying4 rfl rfl (by rw [match_repU hok20 (by omega) (by omega), decide_eq_false (show ¬ k0 = 0 by omega), Bool.false_and, Bool.false_or]) ?_)
   refine O_y hs (Y_pickT rfl rfl ?_)
   refine O_a rfl ?_
   refine O_nil (T_kp [6] rfl ?_)
   refine T_ret ?_
   refine Rt_fin (vs := [_]) Tryz.results8 rfl ⟨rfl, trivial⟩ ?_
   try dsimp only [tup]
   exact ⟨_, [], hs.done, rfl, rfl⟩
 ·
  dsimp only [cmpP] at h40
  refine O_nil (T_kp [7, 8, 9, 10, 12, 13, 40] rfl ?_)
  refine T_condF rfl (T_skip ?_)
  refine T_seq (T_region rfl ?_)
  refine O_y hs (Y_ldA 1 Tryz.isAgg42 Tryz.sizeOf42 rfl rfl (vs := [_, _, _, _, _, _, _, _, _]) rfl rfl ?_)
  refine O_m rfl ?_
  refine O_s (S_call (H1 := []) hs rfl Tryz.func22 rfl (by kernel_rfl) (run_ok (n := ⟨8, noC, 0, 0, (k0 : Int), (k1 : Int)⟩) hx20 noC_ok (by rw [nodesT_len]; omega)) fun v12 G' H' _ hR hG45 hs => ?_)
  obtain ⟨rfl, hU45⟩ := hR
  replace hs : St _ _ [_, _] _ := hs
  replace ha := ha.mono hG45
  replace hw := hw.mono hG45
  replace hT := hT.mono hG45
  replace hw18 := hw18.mono hG45
  replace hx20 := hx20.mono hG45
  rw [unF_rep] at hU45
  refine O_m rfl ?_
  refine O_s (S_call (H1 := []) hs rfl Tryz.func21 rfl (by kernel_rfl) (match_ok hU45 hw18 (by rw [nodesT_len]; (try simp only [sizeT]); omega) (by first | omega | (simp only [List.length_take, List.length_drop]; omega))) fun v13 G' H' _ hR hG47 hs => ?_)
  obtain ⟨rfl, rfl⟩ := hR
  replace hs : St _ _ [_, _] _ := hs
  replace ha := ha.mono hG47
  replace hw := hw.mono hG47
  replace hT := hT.mono hG47
  replace hw18 := hw18.mono hG47
  replace hx20 := hx20.mono hG47
  replace hU45 := hU45.mono hG47
  refine O_a rfl ?_
  refine O_nil (T_kp [7, 8, 9, 10, 12, 13, 14] rfl ?_)
  refine T_seq (T_region rfl ?_)
  refine O_m rfl ?_
  refine O_y hs (Y_cmpS rfl rfl rfl (fun h49 => ?_) (fun h49 => ?_))
  ·
   dsimp only [cmpP] at h49
   refine O_m rfl ?_
   refine O_yy 50 hs rfl rfl (Y_move rfl ?_)
   refine O_yy 50 hs rfl rfl (Y_len Tryz.underlying30 rfl ?_)
   refine O_yy 50 hs rfl rfl (Y_cmpS rfl rfl rfl (fun h53 => ?_) (fun h53 => ?_))
   ·
    dsimp only [cmpP] at h53
    refine O_y hs (Y_pickT rfl rfl ?_)
    refine O_a rfl ?_
    refine O_nil (T_kp [7, 8, 9, 12, 13, 14, 15] rfl ?_)
    refine T_seq (T_seq (T_region rfl ?_))
    refine O_y hs (Y_fieldAddr FO42_5 rfl (m := 8) rfl ?_)
    refine O_y hs (Y_ld 1 Tryz.isAgg3 rfl rfl rfl ?_)
    refine O_y hs (Y_cmpS rfl rfl rfl (fun h57 => ?_) (fun h57 => ?_))
    ·
     dsimp only [cmpP] at h57
     refine O_nil (T_kp [7, 8, 9, 13, 14, 15, 57] rfl ?_)
     refine T_condT rfl (T_seq (T_region rfl ?_))
     refine O_m rfl ?_
     refine O_m rfl ?_
     refine O_yy 59 hs rfl rfl (Y_move rfl ?_)
     refine O_yy 59 hs rfl rfl (Y_move rfl ?_)
     refine O_yy 59 hs rfl rfl (Y_boolEq1 Tryz.underlying4 rfl rfl (by rw [match_repZ hok20 (by omega) (by omega) (by omega)]; exact decide_eq_true (by omega)) ?_)
     refine O_y hs (Y_pickT rfl rfl ?_)
     refine O_a rfl ?_
     refine O_nil (T_kp [6] rfl ?_)
     refine T_ret ?_
     refine Rt_fin (vs := [_]) Tryz.results8 rfl ⟨rfl, trivial⟩ ?_
     try dsimp only [tup]
     exact ⟨_, [], hs.done, rfl, rfl⟩
    ·
     dsimp only [cmpP] at h57
     refine O_nil (T_kp [7, 8, 9, 13, 14, 15, 57] rfl ?_)
     refine T_condF rfl (T_skip ?_)
     refine T_seq (T_region rfl ?_)
     refine O_m rfl ?_
     refine O_m rfl ?_
     refine O_yy 65 hs rfl rfl (Y_move rfl ?_)
     refine O_yy 65 hs rfl rfl (Y_move rfl ?_)
     refine O_yy 65 hs rfl rfl (Y_move rfl ?_)
     refine O_no 68 rfl rfl ?_
     refine O_no 68 rfl rfl ?_
     refine O_no 68 rfl rfl ?_
     refine O_no 68 rfl rfl ?_
     refine O_no 68 rfl rfl ?_
     refine O_no 68 rfl rfl ?_
     refine O_no 68 rfl rfl ?_
     refine O_yy 65 hs rfl rfl (Y_pickT rfl rfl ?_)
     refine O_yy 65 hs rfl rfl (Y_boolEq1 Tryz.underlying4 rfl rfl (by rw [match_repB hok20 (by omega) (by omega) (by omega) (by omega), decide_eq_true (show k0 = 0 by omega), decide_eq_true (show W.length = 0 by omega)]; rfl) ?_)
     refine O_y hs (Y_pickT rfl rfl ?_)
     refine O_a rfl ?_
     refine O_nil (T_kp [6] rfl ?_)
     refine T_ret ?_
     refine Rt_fin (vs := [_]) Tryz.results8 rfl ⟨rfl, trivial⟩ ?_
     try dsimp only [tup]
     exact ⟨_, [], hs.done, rfl, rfl⟩
   ·
    dsimp only [cmpP] at h53
    refine O_y hs (Y_pickT rfl rfl ?_)
    refine O_a rfl ?_
    refine O_nil (T_kp [7, 8, 9, 12, 13, 14, 15] rfl ?_)
    refine T_seq (T_seq (T_region rfl ?_))
    refine O_y hs (Y_fieldAddr FO42_5 rfl (m := 8) rfl ?_)
    refine O_y hs (Y_ld 1 Tryz.isAgg3 rfl rfl rfl ?_)
    refine O_y hs (Y_cmpS rfl rfl rfl (fun h57 => ?_) (fun h57 => ?_))
    ·
     dsimp only [cmpP] at h57
     refine O_nil (T_kp [7, 8, 9, 13, 14, 15, 57] rfl ?_)
     refine T_condT rfl (T_seq (T_region rfl ?_))
     refine O_m rfl ?_
     refine O_m rfl ?_
     refine O_yy 59 hs rfl rfl (Y_move rfl ?_)
     refine O_yy 59 hs rfl rfl (Y_move rfl ?_)
     refine O_yy 59 hs rfl rfl (Y_boolEq1 Tryz.underlying4 rfl rfl (by rw [match_repZ hok20 (by omega) (by omega) (by omega)]; exact decide_eq_false (by omega)) ?_)
     refine O_y hs (Y_pickT rfl rfl ?_)
     refine O_a rfl ?_
     refine O_nil (T_kp [6] rfl ?_)
     refine T_ret ?_
     refine Rt_fin (vs := [_]) Tryz.results8 rfl ⟨rfl, trivial⟩ ?_
     try dsimp only [tup]
     exact ⟨_, [], hs.done, rfl, rfl⟩
    ·
     dsimp only [cmpP] at h57
     refine O_nil (T_kp [7, 8, 9, 13, 14, 15, 57] rfl ?_)
     refine T_condF rfl (T_skip ?_)
     refine T_seq (T_region rfl ?_)
     refine O_m rfl ?_
     refine O_m rfl ?_
     refine O_yy 65 hs rfl rfl (Y_move rfl ?_)
     refine O_yy 65 hs rfl rfl (Y_move rfl ?_)
     refine O_yy 65 hs rfl rfl (Y_move rfl ?_)
     refine O_yy 68 hs rfl rfl (Y_move rfl ?_)
     refine O_yy 68 hs rfl rfl (Y_ldA 0 Tryz.isAgg42 Tryz.sizeOf42 rfl rfl (vs := [_, _, _, _, _, _, _, _, _]) rfl rfl ?_)
     refine O_yy 68 hs rfl rfl (Y_move rfl ?_)
     refine O_yes 68 rfl rfl (S_call (H1 := []) hs rfl Tryz.func22 rfl (by kernel_rfl) (run_ok (n := ⟨8, noC, 0, 0, ((k0 - 1 : Nat) : Int), ((k1 : Int) - 1)⟩) hx20 noC_ok (by rw [nodesT_len]; omega)) fun v14 G' H' _ hR hG72 hs => ?_)
     obtain ⟨rfl, hU72⟩ := hR
     replace hs : St _ _ [_, _] _ := hs
     replace ha := ha.mono hG72
     replace hw := hw.mono hG72
     replace hT := hT.mono hG72
     replace hw18 := hw18.mono hG72
     replace hx20 := hx20.mono hG72
     replace hU45 := hU45.mono hG72
     rw [unF_rep] at hU72
     refine O_yes 68 rfl rfl (S_call (H1 := []) hs rfl Tryz.func20 rfl (by kernel_rfl) (rbin_ok (kk := 4) hx20 hU72 (by rw [nodesT_len]; omega) (by rw [nodesT_len]; (try simp only [sizeT]); omega) (IsTree.rng ⟨_, rep_ok2 (.inr ⟨by omega, by omega, by omega⟩) hok20, hsh20, rfl⟩ (by rw [nodesT_len]; (try simp only [sizeT]); omega))) fun v15 G' H' _ hR hG73 hs => ?_)
     obtain ⟨rfl, hU73⟩ := hR
     replace hs : St _ _ [_, _] _ := hs
     replace ha := ha.mono hG73
     replace hw := hw.mono hG73
     replace hT := hT.mono hG73
     replace hw18 := hw18.mono hG73
     replace hx20 := hx20.mono hG73
     replace hU45 := hU45.mono hG73
     replace hU72 := hU72.mono hG73
     rw [binF_nodes (.inl rfl)] at hU73
     change Rx _ _ (nodesT 0 (.cat t20 (.rep ((k0 - 1 : Nat) : Int) ((k1 : Int) - 1) t20))) at hU73
     refine O_yy 68 hs rfl rfl (Y_move rfl ?_)
     refine O_yes 68 rfl rfl (S_call (H1 := []) hs rfl Tryz.func21 rfl (by kernel_rfl) (match_ok hU73 hw18 (by rw [nodesT_len]; (try simp only [sizeT]); omega) (by first | omega | (simp only [List.length_take, List.length_drop]; omega))) fun v16 G' H' _ hR hG75 hs => ?_)
     obtain ⟨rfl, rfl⟩ := hR
     replace hs : St _ _ [_, _] _ := hs
     replace ha := ha.mono hG75
     replace hw := hw.mono hG75
     replace hT := hT.mono hG75
     replace hw18 := hw18.mono hG75
     replace hx20 := hx20.mono hG75
     replace hU45 := hU45.mono hG75
     replace hU72 := hU72.mono hG75
     replace hU73 := hU73.mono hG75
     refine O_yy 65 hs rfl rfl (Y_pickF rfl rfl ?_)
     refine O_yy 65 hs rfl rfl (Y_boolEq1 Tryz.underlying4 rfl rfl (by rw [match_repB hok20 (by omega) (by omega) (by omega) (by omega), decide_eq_false (show ¬ W.length = 0 by omega), Bool.and_false, Bool.false_or]) ?_)
     refine O_y hs (Y_pickT rfl rfl ?_)
     refine O_a rfl ?_
     refine O_nil (T_kp [6] rfl ?_)
     refine T_ret ?_
     refine Rt_fin (vs := [_]) Tryz.results8 rfl ⟨rfl, trivial⟩ ?_
     try dsimp only [tup]
     exact ⟨_, [], hs.done, rfl, rfl⟩
  ·
   dsimp only [cmpP] at h49
   refine O_m rfl ?_
   refine O_no 50 rfl rfl ?_
   refine O_no 50 rfl rfl ?_
   refine O_no 50 rfl rfl ?_
   refine O_y hs (Y_pickF rfl rfl ?_)
   refine O_a rfl ?_
   refine O_nil (T_kp [7, 8, 9, 12, 13, 14, 15] rfl ?_)
   refine T_seq (T_seq (T_region rfl ?_))
   refine O_y hs (Y_fieldAddr FO42_5 rfl (m := 8) rfl ?_)
   refine O_y hs (Y_ld 1 Tryz.isAgg3 rfl rfl rfl ?_)
   refine O_y hs (Y_cmpS rfl rfl rfl (fun h57 => ?_) (fun h57 => ?_))
   ·
    dsimp only [cmpP] at h57
    refine O_nil (T_kp [7, 8, 9, 13, 14, 15, 57] rfl ?_)
    refine T_condT rfl (T_seq (T_region rfl ?_))
    refine O_m rfl ?_
    refine O_m rfl ?_
    refine O_yy 59 hs rfl rfl (Y_move rfl ?_)
    refine O_yy 59 hs rfl rfl (Y_move rfl ?_)
    refine O_yy 59 hs rfl rfl (Y_boolEq1 Tryz.underlying4 rfl rfl (by rw [match_repZ hok20 (by omega) (by omega) (by omega)]; exact decide_eq_false (by omega)) ?_)
    refine O_y hs (Y_pickT rfl rfl ?_)
    refine O_a rfl ?_
    refine O_nil (T_kp [6] rfl ?_)
    refine T_ret ?_
    refine Rt_fin (vs := [_]) Tryz.results8 rfl ⟨rfl, trivial⟩ ?_
    try dsimp only [tup]
    exact ⟨_, [], hs.done, rfl, rfl⟩
   ·
    dsimp only [cmpP] at h57
    refine O_nil (T_kp [7, 8, 9, 13, 14, 15, 57] rfl ?_)
    refine T_condF rfl (T_skip ?_)
    refine T_seq (T_region rfl ?_)
    refine O_m rfl ?_
    refine O_m rfl ?_
    refine O_yy 65 hs rfl rfl (Y_move rfl ?_)
    refine O_yy 65 hs rfl rfl (Y_move rfl ?_)
    refine O_yy 65 hs rfl rfl (Y_move rfl ?_)
    refine O_yy 68 hs rfl rfl (Y_move rfl ?_)
    refine O_yy 68 hs rfl rfl (Y_ldA 0 Tryz.isAgg42 Tryz.sizeOf42 rfl rfl (vs := [_, _, _, _, _, _, _, _, _]) rfl rfl ?_)
    refine O_yy 68 hs rfl rfl (Y_move rfl ?_)
    refine O_yes 68 rfl rfl (S_call (H1 := []) hs rfl Tryz.func22 rfl (by kernel_rfl) (run_ok (n := ⟨8, noC, 0, 0, ((k0 - 1 : Nat) : Int), ((k1 : Int) - 1)⟩) hx20 noC_ok (by rw [nodesT_len]; omega)) fun v17 G' H' _ hR hG72 hs => ?_)
    obtain ⟨rfl, hU72⟩ := hR
    replace hs : St _ _ [_, _] _ := hs
    replace ha := ha.mono hG72
    replace hw := hw.mono hG72
    replace hT := hT.mono hG72
    replace hw18 := hw18.mono hG72
    replace hx20 := hx20.mono hG72
    replace hU45 := hU45.mono hG72
    rw [unF_rep] at hU72
    refine O_yes 68 rfl rfl (S_call (H1 := []) hs rfl Tryz.func20 rfl (by kernel_rfl) (rbin_ok (kk := 4) hx20 hU72 (by rw [nodesT_len]; omega) (by rw [nodesT_len]; (try simp only [sizeT]); omega) (IsTree.rng ⟨_, rep_ok2 (.inr ⟨by omega, by omega, by omega⟩) hok20, hsh20, rfl⟩ (by rw [nodesT_len]; (try simp only [sizeT]); omega))) fun v18 G' H' _ hR hG73 hs => ?_)
    obtain ⟨rfl, hU73⟩ := hR
    replace hs : St _ _ [_, _] _ := hs
    replace ha := ha.mono hG73
    replace hw := hw.mono hG73
    replace hT := hT.mono hG73
    replace hw18 := hw18.mono hG73
    replace hx20 := hx20.mono hG73
    replace hU45 := hU45.mono hG73
    replace hU72 := hU72.mono hG73
    rw [binF_nodes (.inl rfl)] at hU73
    change Rx _ _ (nodesT 0 (.cat t20 (.rep ((k0 - 1 : Nat) : Int) ((k1 : Int) - 1) t20))) at hU73
    refine O_yy 68 hs rfl rfl (Y_move rfl ?_)
    refine O_yes 68 rfl rfl (S_call (H1 := []) hs rfl Tryz.func21 rfl (by kernel_rfl) (match_ok hU73 hw18 (by rw [nodesT_len]; (try simp only [sizeT]); omega) (by first | omega | (simp only [List.length_take, List.length_drop]; omega))) fun v19 G' H' _ hR hG75 hs => ?_)
    obtain ⟨rfl, rfl⟩ := hR
    replace hs : St _ _ [_, _] _ := hs
    replace ha := ha.mono hG75
    replace hw := hw.mono hG75
    replace hT := hT.mono hG75
    replace hw18 := hw18.mono hG75
    replace hx20 := hx20.mono hG75
    replace hU45 := hU45.mono hG75
    replace hU72 := hU72.mono hG75
    replace hU73 := hU73.mono hG75
    refine O_yy 65 hs rfl rfl (Y_pickF rfl rfl ?_)
    refine O_yy 65 hs rfl rfl (Y_boolEq1 Tryz.underlying4 rfl rfl (by rw [match_repB hok20 (by omega) (by omega) (by omega) (by omega), decide_eq_false (show ¬ k0 = 0 by omega), Bool.false_and, Bool.false_or]) ?_)
    refine O_y hs (Y_pickT rfl rfl ?_)
    refine O_a rfl ?_
    refine O_nil (T_kp [6] rfl ?_)
    refine T_ret ?_
    refine Rt_fin (vs := [_]) Tryz.results8 rfl ⟨rfl, trivial⟩ ?_
    try dsimp only [tup]
    exact ⟨_, [], hs.done, rfl, rfl⟩

end Go.Proofs.YtkmgbcjfidpmgaaGreatDoor
