import Derived.Test.YtkmgbcjfidpmgaaGreatDoorExWalks9
import Derived.Test.YtkmgbcjfidpmgaaGreatDoorProg
import Derived.Test.YtkmgbcjfidpmgaaGreatDoorSame
import Derived.Test.YtkmgbcjfidpmgaaGreatDoorExThin
import Derived.Test.YtkmgbcjfidpmgaaGreatDoorShelf
namespace Go.Proofs.YtkmgbcjfidpmgaaGreatDoor
open Go Go.Ex Go.RowKit


theorem Y_boolEq1 {x : Cx} {W : World → Prop} {E : Env} {K : Value → Prop} {d : Option Tmp} {ty : TypeId} {pos : String} {aft : Array Edge} {g : Option (Nat × Bool)} {o p : Operand} {xt yt : TypeId} {a b : Bool} (hu : x.P.underlying xt = some .bool) (h1 : ev E o = some (.bool a)) (h2 : ev E p = some (.bool b)) (hab : a = b) (k : K (.bool true)) : Y x W ⟨d, .binOp .eql xt o p yt, ty, pos, aft, g⟩ E K :=
  Y_boolEqS hu h1 h2 (fun _ => k) (fun h => absurd hab h)
theorem null_ok' {G : Ghost} {v : Value} {l : List NodeV} {x : Bool} (hx : Rx G v l) (hl : l.length ≤ 1000000000) (h : matchF l [] = x) : FnOk Tryz.prog 26 [v] G [] fun r _ H' => H' = [] ∧ r = .bool x := by have := null_ok hx hl; rw [h] at this; exact this


theorem flat_take {k : Nat} : ∀ (cs : List (List Value)) (h : Nat), (∀ c ∈ cs, c.length = k) → cs.flatten.take (h * k) = (cs.take h).flatten
  | [], h, _ => by simp
  | c :: cs, 0, _ => by simp
  | c :: cs, h + 1, hk => by
    have hc := hk c (by simp)
    rw [List.flatten_cons, List.take_succ_cons, List.flatten_cons, Nat.succ_mul, List.take_append, List.take_of_length_le (by omega), hc, Nat.add_sub_cancel, flat_take cs h fun d hd => hk d (by simp [hd])]
theorem all2_take {α β : Type} {R : α → β → Prop} {l : List α} {m : List β} (i : Nat) (h : All2 R l m) : All2 R (l.take i) (m.take i) := All2.take i h
/-- The first h nodes of a list. -/
theorem Y_takeN {x : Cx} {W : World → Prop} {E : Env} {K : Value → Prop} {d : Option Tmp} {ty : TypeId} {pos : String} {aft : Array Edge} {g : Option (Nat × Bool)} {o : Operand} {hi : Option Operand} {t e : TypeId} {v : Value} {l : List NodeV} {G : Ghost} (hx : Rx G v l) (h : Nat) (hu : x.P.underlying t = some (.slice e)) (hs : ∀ w, (sizeOf e).run x.P w = .ok 9 w)
    (h1 : ev E o = some v) (hhi : bnd E hi l.length h) (hh : h ≤ l.length) (k : ∀ v', Rx G v' (l.take h) → K v') : Y x W ⟨d, .slice t o none hi none, ty, pos, aft, g⟩ E K := by
  obtain ⟨cs, hS, h2, hk⟩ := hx
  have hcl := All2.length h2
  refine Y_slice (lo := none) 0 h hu hs hS h1 rfl hhi (Nat.zero_le _) hh fun v' hv => k v' ?_
  rw [Nat.zero_mul, List.drop_zero, Nat.sub_zero, flat_take cs h hk] at hv
  exact ⟨cs.take h, by rw [List.length_take, Nat.min_eq_left hh]; exact hv, h2.take h, fun c hc => hk c (List.mem_of_mem_take hc)⟩


set_option maxHeartbeats 4000000 in
set_option maxRecDepth 10000 in
theorem lawReject {G : Ghost} {va vw : Value} {a wl : List UInt8} {b : UInt8} (ha : Bytes G va a) (hla : a.length ≤ 1048576) (hw : Bytes G vw wl) (hlw : wl.length ≤ 1048576) (hT : Tab G) :
  FnOk Tryz.prog 11 [va, .int .u8 (b.toNat : Int), vw] G [] fun r _ H' => H' = [] ∧ r = .bool true := by
 obtain ⟨Aa, ca, rfl, _⟩ := id ha
 obtain ⟨Aw, cw, rfl, _⟩ := id hw
 have hb := b.toNat_lt
 refine FnOk.of_T [(0, _), (1, _), (2, _)] Tryz.func11 rfl Tryz.ntmps11 (by simp) rfl fun w0 hs => ?_
 have ha0 := ha
 have hw0 := hw
 have hT0 := hT
 refine T_seq (T_region rfl ?_)
 refine O_a rfl ?_
 refine O_nil (T_kp [0, 1, 2] rfl ?_)
 refine T_seq (T_region rfl ?_)
 refine O_s (S_call (H1 := []) hs rfl Tryz.func12 rfl (by kernel_rfl) (sanity_ok hT) fun v1 G' H' _ hR hG14 hs => ?_)
 obtain ⟨rfl, rfl⟩ := hR
 replace hs : St _ _ [] _ := hs
 replace ha := ha.mono hG14
 replace hw := hw.mono hG14
 replace hT := hT.mono hG14
 refine O_a rfl ?_
 refine O_nil (T_kp [0, 1, 2, 7] rfl ?_)
 refine T_seq (T_region rfl ?_)
 refine O_m rfl ?_
 refine O_s (S_call (H1 := []) hs rfl Tryz.func16 rfl (by kernel_rfl) (made_ok (most := 30) (by decide) 1048576 _ _ a (by omega) (Nat.le_refl _) ha) fun v2 G' H' _ hR hG16 hs => ?_)
 obtain ⟨rfl, _, hx16, ⟨t16, hok16, hsh16, rfl⟩, hlx16⟩ := hR
 replace hs : St _ _ [] _ := hs
 replace ha := ha.mono hG16
 replace hw := hw.mono hG16
 replace hT := hT.mono hG16
 rw [nodesT_len] at hlx16
 obtain ⟨Ax16, cx16, rfl⟩ := LstR.slice hx16
 refine O_a rfl ?_
 refine O_nil (T_kp [1, 2, 7, 8] rfl ?_)
 refine T_seq (T_region rfl ?_)
 refine O_m rfl ?_
 refine O_m rfl ?_
 refine O_y hs (Y_len Tryz.underlying24 rfl ?_)
 obtain ⟨j, hj⟩ : ∃ j, sizeT t16 = j + 1 := ⟨sizeT t16 - 1, by have := sizeT_pos t16; omega⟩
 have hln : (nodesT 0 t16).length = j + 1 := (nodesT_len _ _).trans hj
 have hIT : IsTree (nodesT 0 t16) := ⟨t16, hok16, hsh16, rfl⟩
 refine O_y hs (Y_sub (c := (j : Int)) rfl rfl (by omega) (by omega) ?_)
 refine O_y hs (Y_idxS hx16 j Tryz.underlying24 Tryz.sizeOf42 rfl rfl rfl (by omega) fun p21 c21 hp21 hc21 hR21 => ?_)
 obtain ⟨rfl, hco21⟩ := hR21
 obtain ⟨nk, hnk⟩ : ∃ n, n = (nodesT 0 t16)[j] := ⟨_, rfl⟩
 have hkd := nodeE_kind (err_at 0 (nodes_err t16 0 hok16) j (by omega) (Nat.zero_le _))
 rw [← hnk] at hkd
 rw [← hnk] at hp21 hco21
 obtain ⟨kd, cc, ll, rr, mn, mx⟩ := nk
 obtain ⟨c0, c1, c2, c3, rfl⟩ := four_of hco21.1
 refine O_y hs (Y_ldAG (vs := [.int .i64 kd, u64V c0, u64V c1, u64V c2, u64V c3, .int .i64 ll, .int .i64 rr, .int .i64 mn, .int .i64 mx]) Tryz.isAgg42 Tryz.sizeOf42 rfl hp21 rfl ?_)
 refine O_s (S_alloc hs Tryz.zeroValue42 (cs := [_, _, _, _, _, _, _, _, _]) rfl fun b9 _ hs => ?_)
 refine O_n (S_stA hs Tryz.sizeOf42 rfl rfl (vs := [_, _, _, _, _, _, _, _, _]) rfl (rfl) (by simp) (cs' := [_, _, _, _, _, _, _, _, _]) rfl fun _ hs => ?_)
 refine O_nil (T_kp [1, 2, 7, 8, 9] rfl ?_)
 refine T_seq (T_region rfl ?_)
 refine O_a rfl ?_
 refine O_nil (T_kp [1, 2, 7, 8, 9, 10] rfl ?_)
 refine T_seq (T_seq (T_region rfl ?_))
 refine O_m rfl ?_
 obtain ⟨k, hk⟩ : ∃ k, k = b.toNat % 6 := ⟨_, rfl⟩
 obtain ⟨q, hq⟩ : ∃ q, q = b.toNat / 6 := ⟨_, rfl⟩
 refine O_y hs (Y_rem (c := (k : Int)) rfl rfl (by omega) (by omega) (by omega) ?_)
 refine O_nil (T_kp [1, 2, 7, 8, 9, 10, 24] rfl ?_)
 refine T_block (T_seq (T_region rfl ?_))
 refine O_y hs (Y_cmpS rfl rfl rfl (fun h26 => ?_) (fun h26 => ?_))
 ·
  dsimp only [cmpP] at h26
  refine O_a rfl ?_
  refine O_nil (T_kp [1, 2, 7, 8, 9, 10, 24, 25] rfl ?_)
  refine T_joinK (fun E w => ∃ (x2 : List NodeV) (j2 : Nat) (Ax2 : Option Addr) (cx2 : Nat) (kd : Int) (c0 c1 c2 c3 : Nat) (ll rr mn mx e : Int) (G' : Ghost), Rx G' (.slice Ax2 x2.length cx2) x2 ∧ x2.length = j2 + 1 ∧ j2 ≤ 40 ∧ validF (x2.take j2 ++ [⟨kd, [c0, c1, c2, c3], ll, rr, mn, mx⟩]) = e ∧ (e = 1 ∨ e = 2) ∧ ClsOk [c0, c1, c2, c3] ∧ E = ⟨[], [(2, (.slice Aw wl.length cw)), (7, .bool true), (8, .slice Ax2 x2.length cx2), (9, .pointer (some ⟨b9, 0, none⟩)), (10, .int .i64 e)]⟩ ∧ St ⟨w0, G, feet []⟩ G' [.blk b9 42 [.int .i64 kd, u64V c0, u64V c1, u64V c2, u64V c3, .int .i64 ll, .int .i64 rr, .int .i64 mn, .int .i64 mx]] w) ?_ ?_
  ·
   refine T_condT rfl (T_region rfl ?_)
   refine O_m rfl ?_
   refine O_y hs (Y_quoU (c := (q : Int)) rfl rfl (by omega) (by omega) (by omega) ?_)
   refine O_y hs (Y_rem (c := ((q % 2 : Nat) : Int)) rfl rfl (by omega) (by omega) (by omega) ?_)
   refine O_y hs (Y_conv Tryz.underlying5 Tryz.underlying3 (c := ((q % 2 : Nat) : Int)) rfl (by rw [IntKind.wrap_i64]; omega) ?_)
   refine O_y hs (Y_mul (c := ((9 * (q % 2) : Nat) : Int)) rfl rfl (by omega) (by omega) ?_)
   refine O_y hs (Y_fieldAddr FO42_0 rfl (m := 0) rfl ?_)
   refine O_n (S_st hs Tryz.sizeOf3 rfl rfl rfl (by simp) (cs' := [_, _, _, _, _, _, _, _, _]) rfl fun _ hs => ?_)
   exact O_nil (⟨[(2, _), (7, _), (8, _), (9, _), (10, _)], ⟨rfl, rfl, rfl, rfl, rfl, trivial⟩, ⟨nodesT 0 t16, j, _, _, _, c0, c1, c2, c3, ll, rr, mn, mx, 1, _, hx16, hln, by omega, spoil_valid hIT hln (by omega) (spoil_kind (n := ⟨kd, [c0, c1, c2, c3], ll, rr, mn, mx⟩) (by omega)) (by decide), .inl rfl, hco21, rfl, hs⟩⟩)
  clear hs
  intro D M L w hL hI
  obtain ⟨x2, j2, Ax2, cx2, kd, c0, c1, c2, c3, ll, rr, mn, mx, e, G', hx2, hl2, hj2, hv, he, hcc, hE, hs⟩ := hI
  cases hE
  refine T_sub _ hL ?_
  have hw := hw0.mono hs.le
  have hT := hT0.mono hs.le
  replace he : ¬ e = 0 := by omega
  refine T_seq (T_drawS [0, 1, 2, 3, 4, 5, 6, 7] hs (by kernel_rfl) ?_)
  replace hs := hs.drew
  refine A_take 0 rfl (by kernel_rfl) rfl hs (Y_move rfl ?_)
  refine A_take 1 rfl (by kernel_rfl) rfl hs (Y_move rfl ?_)
  refine A_take 2 rfl (by kernel_rfl) rfl hs (Y_len Tryz.underlying24 rfl ?_)
  refine A_take 3 rfl (by kernel_rfl) rfl hs (Y_sub (c := (j2 : Int)) rfl rfl (by omega) (by omega) ?_)
  refine A_take 4 rfl (by kernel_rfl) rfl hs (Y_takeN hx2 j2 Tryz.underlying24 Tryz.sizeOf42 rfl ⟨_, _, rfl, rfl⟩ (by omega) fun s77 hs77 => ?_)
  refine A_take 5 rfl (by kernel_rfl) rfl hs (Y_ldA 0 Tryz.isAgg42 Tryz.sizeOf42 rfl rfl (vs := [_, _, _, _, _, _, _, _, _]) rfl rfl ?_)
  have hle := hs.le
  refine A_only 6 rfl (by kernel_rfl) rfl (S_call (H1 := []) hs rfl Tryz.func29 rfl (by kernel_rfl) (rwith_ok (n := ⟨kd, [c0, c1, c2, c3], ll, rr, mn, mx⟩) hs77 hcc (by rw [List.length_take]; omega)) fun v3 G' H' _ hR hG79 hs => ?_)
  obtain ⟨rfl, hU79⟩ := hR
  replace hs : St _ _ [_] _ := hs
  replace hw := hw.mono hG79
  replace hT := hT.mono hG79
  replace hx2 := hx2.mono hG79
  refine A_moreS hs hle hG79 (List.Sublist.refl _) ?_
  refine A_take 7 rfl (by kernel_rfl) rfl hs (Y_assign rfl ?_)
  refine A_done (by kernel_rfl) (T_kp [2, 7, 10, 11] rfl ?_)
  refine T_seq (T_region rfl ?_)
  refine O_m rfl ?_
  refine O_s (S_call (H1 := []) hs rfl Tryz.func17 rfl (by kernel_rfl) (fmt_ok' hU79 (by rw [List.length_append, List.length_take, List.length_singleton]; omega) hT (format_bad hv he)) fun v4 G' H' _ hR hG82 hs => ?_)
  obtain ⟨rfl, rfl⟩ := hR
  replace hs : St _ _ [_] _ := hs
  replace hw := hw.mono hG82
  replace hT := hT.mono hG82
  replace hx2 := hx2.mono hG82
  replace hU79 := hU79.mono hG82
  refine O_m rfl ?_
  refine O_y hs (Y_extract rfl rfl ?_)
  refine O_y hs (Y_extract rfl rfl ?_)
  refine O_a rfl ?_
  refine O_a rfl ?_
  refine O_nil (T_kp [2, 7, 10, 11, 12, 13] rfl ?_)
  refine T_seq (T_region rfl ?_)
  refine O_m rfl ?_
  refine O_m rfl ?_
  refine O_yy 86 hs rfl rfl (Y_move rfl ?_)
  refine O_yes 86 rfl rfl (S_call (H1 := []) hs rfl Tryz.func24 rfl (by kernel_rfl) (valid_ok' hU79 (by rw [List.length_append, List.length_take, List.length_singleton]; omega) hv) fun v5 G' H' _ hR hG88 hs => ?_)
  obtain ⟨rfl, rfl⟩ := hR
  replace hs : St _ _ [_] _ := hs
  replace hw := hw.mono hG88
  replace hT := hT.mono hG88
  replace hx2 := hx2.mono hG88
  replace hU79 := hU79.mono hG88
  refine O_yy 86 hs rfl rfl (Y_move rfl ?_)
  refine O_yy 86 hs rfl rfl (Y_cmpT rfl rfl rfl (rfl) ?_)
  refine O_y hs (Y_pickT rfl rfl ?_)
  refine O_m rfl ?_
  refine O_yy 92 hs rfl rfl (Y_move rfl ?_)
  refine O_yy 92 hs rfl rfl (Y_strEq (b := true) rfl rfl ⟨fun _ => rfl, fun _ => rfl⟩ ?_)
  refine O_y hs (Y_pickT rfl rfl ?_)
  refine O_m rfl ?_
  refine O_yy 96 hs rfl rfl (Y_move rfl ?_)
  refine O_yy 96 hs rfl rfl (Y_move rfl ?_)
  refine O_yy 96 hs rfl rfl (Y_cmpT rfl rfl rfl (rfl) ?_)
  refine O_y hs (Y_pickT rfl rfl ?_)
  refine O_m rfl ?_
  refine O_yy 101 hs rfl rfl (Y_move rfl ?_)
  refine O_yy 101 hs rfl rfl (Y_move rfl ?_)
  refine O_yes 101 rfl rfl (S_call (H1 := []) hs rfl Tryz.func21 rfl (by kernel_rfl) (match_ok' hU79 hw (by rw [List.length_append, List.length_take, List.length_singleton]; omega) (by omega) (match_bad hv he _)) fun v6 G' H' _ hR hG104 hs => ?_)
  obtain ⟨rfl, rfl⟩ := hR
  replace hs : St _ _ [_] _ := hs
  replace hw := hw.mono hG104
  replace hT := hT.mono hG104
  replace hx2 := hx2.mono hG104
  replace hU79 := hU79.mono hG104
  refine O_yy 101 hs rfl rfl (Y_not rfl ?_)
  refine O_y hs (Y_pickT rfl rfl ?_)
  refine O_m rfl ?_
  refine O_yy 107 hs rfl rfl (Y_move rfl ?_)
  refine O_yes 107 rfl rfl (S_call (H1 := []) hs rfl Tryz.func26 rfl (by kernel_rfl) (null_ok' hU79 (by rw [List.length_append, List.length_take, List.length_singleton]; omega) (match_bad hv he _)) fun v7 G' H' _ hR hG109 hs => ?_)
  obtain ⟨rfl, rfl⟩ := hR
  replace hs : St _ _ [_] _ := hs
  replace hw := hw.mono hG109
  replace hT := hT.mono hG109
  replace hx2 := hx2.mono hG109
  replace hU79 := hU79.mono hG109
  refine O_yy 107 hs rfl rfl (Y_not rfl ?_)
  refine O_y hs (Y_pickT rfl rfl ?_)
  refine O_a rfl ?_
  refine O_nil (T_kp [6] rfl ?_)
  refine T_ret ?_
  refine Rt_fin (vs := [_]) Tryz.results11 rfl ⟨rfl, trivial⟩ ?_
  try dsimp only [tup]
  exact ⟨_, [], hs.done, rfl, rfl⟩
 ·
  dsimp only [cmpP] at h26
  refine O_a rfl ?_
  refine O_nil (T_kp [1, 2, 7, 8, 9, 10, 24, 25] rfl ?_)
  refine T_joinK (fun E w => ∃ (x2 : List NodeV) (j2 : Nat) (Ax2 : Option Addr) (cx2 : Nat) (kd : Int) (c0 c1 c2 c3 : Nat) (ll rr mn mx e : Int) (G' : Ghost), Rx G' (.slice Ax2 x2.length cx2) x2 ∧ x2.length = j2 + 1 ∧ j2 ≤ 40 ∧ validF (x2.take j2 ++ [⟨kd, [c0, c1, c2, c3], ll, rr, mn, mx⟩]) = e ∧ (e = 1 ∨ e = 2) ∧ ClsOk [c0, c1, c2, c3] ∧ E = ⟨[], [(2, (.slice Aw wl.length cw)), (7, .bool true), (8, .slice Ax2 x2.length cx2), (9, .pointer (some ⟨b9, 0, none⟩)), (10, .int .i64 e)]⟩ ∧ St ⟨w0, G, feet []⟩ G' [.blk b9 42 [.int .i64 kd, u64V c0, u64V c1, u64V c2, u64V c3, .int .i64 ll, .int .i64 rr, .int .i64 mn, .int .i64 mx]] w) ?_ ?_
  ·
   refine T_condF rfl (T_seq (T_region rfl ?_))
   refine O_y hs (Y_cmpS rfl rfl rfl (fun h34 => ?_) (fun h34 => ?_))
   ·
    dsimp only [cmpP] at h34
    refine O_a rfl ?_
    refine O_nil (T_kp [1, 2, 7, 8, 9, 10, 24, 33] rfl ?_)
    refine T_condT rfl (T_region rfl ?_)
    refine O_m rfl ?_
    refine O_y hs (Y_len Tryz.underlying24 rfl ?_)
    refine O_m rfl ?_
    refine O_y hs (Y_quoU (c := (q : Int)) rfl rfl (by omega) (by omega) (by omega) ?_)
    refine O_y hs (Y_conv Tryz.underlying5 Tryz.underlying3 (c := (q : Int)) rfl (by rw [IntKind.wrap_i64]; omega) ?_)
    refine O_y hs (Y_add (c := ((j + 1 + q : Nat) : Int)) rfl rfl (by omega) (by omega) ?_)
    refine O_y hs (Y_fieldAddr FO42_2 rfl (m := 5) rfl ?_)
    refine O_n (S_st hs Tryz.sizeOf3 rfl rfl rfl (by simp) (cs' := [_, _, _, _, _, _, _, _, _]) rfl fun _ hs => ?_)
    exact O_nil (⟨[(2, _), (7, _), (8, _), (9, _), (10, _)], ⟨rfl, rfl, rfl, rfl, rfl, trivial⟩, ⟨nodesT 0 t16, j, _, _, kd, c0, c1, c2, c3, _, rr, mn, mx, 1, _, hx16, hln, by omega, spoil_valid hIT hln (by omega) (spoil_l (n := ⟨kd, [c0, c1, c2, c3], ll, rr, mn, mx⟩) hkd (.inr ⟨by omega, by omega⟩)) (by decide), .inl rfl, hco21, rfl, hs⟩⟩)
   ·
    dsimp only [cmpP] at h34
    refine O_a rfl ?_
    refine O_nil (T_kp [1, 2, 7, 8, 9, 10, 24, 33] rfl ?_)
    refine T_condF rfl (T_seq (T_region rfl ?_))
    refine O_y hs (Y_cmpS rfl rfl rfl (fun h43 => ?_) (fun h43 => ?_))
    ·
     dsimp only [cmpP] at h43
     refine O_a rfl ?_
     refine O_nil (T_kp [1, 2, 7, 8, 9, 10, 24, 42] rfl ?_)
     refine T_condT rfl (T_region rfl ?_)
     refine O_m rfl ?_
     refine O_y hs (Y_quoU (c := (q : Int)) rfl rfl (by omega) (by omega) (by omega) ?_)
     refine O_y hs (Y_conv Tryz.underlying5 Tryz.underlying3 (c := (q : Int)) rfl (by rw [IntKind.wrap_i64]; omega) ?_)
     refine O_y hs (Y_sub (c := (-1 - (q : Int))) rfl rfl (by omega) (by omega) ?_)
     refine O_y hs (Y_fieldAddr FO42_2 rfl (m := 5) rfl ?_)
     refine O_n (S_st hs Tryz.sizeOf3 rfl rfl rfl (by simp) (cs' := [_, _, _, _, _, _, _, _, _]) rfl fun _ hs => ?_)
     exact O_nil (⟨[(2, _), (7, _), (8, _), (9, _), (10, _)], ⟨rfl, rfl, rfl, rfl, rfl, trivial⟩, ⟨nodesT 0 t16, j, _, _, kd, c0, c1, c2, c3, _, rr, mn, mx, 1, _, hx16, hln, by omega, spoil_valid hIT hln (by omega) (spoil_l (n := ⟨kd, [c0, c1, c2, c3], ll, rr, mn, mx⟩) hkd (.inl (by omega))) (by decide), .inl rfl, hco21, rfl, hs⟩⟩)
    ·
     dsimp only [cmpP] at h43
     refine O_a rfl ?_
     refine O_nil (T_kp [1, 2, 7, 8, 9, 10, 24, 42] rfl ?_)
     refine T_condF rfl (T_seq (T_region rfl ?_))
     refine O_y hs (Y_cmpS rfl rfl rfl (fun h50 => ?_) (fun h50 => ?_))
     ·
      dsimp only [cmpP] at h50
      refine O_a rfl ?_
      refine O_nil (T_kp [2, 7, 8, 9, 10, 24, 49] rfl ?_)
      refine T_condT rfl (T_seq (T_region rfl ?_))
      refine O_m rfl ?_
      refine O_y hs (Y_len Tryz.underlying24 rfl ?_)
      refine O_y hs (Y_sub (c := (j : Int)) rfl rfl (by omega) (by omega) ?_)
      refine O_y hs (Y_build Tryz.zeroValue42 rfl PL42 rfl (cs := [_, _, _, _, _, _, _, _, _]) rfl ?_)
      refine O_n (S_stA hs Tryz.sizeOf42 rfl rfl (vs := [_, _, _, _, _, _, _, _, _]) rfl (rfl) (by simp) (cs' := [_, _, _, _, _, _, _, _, _]) rfl fun _ hs => ?_)
      refine O_nil (T_kp [2, 7, 8, 9] rfl ?_)
      refine T_seq (T_region rfl ?_)
      refine O_a rfl ?_
      refine O_nil (T_kp [2, 7, 8, 9, 10] rfl ?_)
      refine T_region rfl ?_
      refine O_m rfl ?_
      refine O_y hs (Y_ldA 0 Tryz.isAgg42 Tryz.sizeOf42 rfl rfl (vs := [_, _, _, _, _, _, _, _, _]) rfl rfl ?_)
      refine O_s (S_call (H1 := []) hs rfl Tryz.func29 rfl (by kernel_rfl) (rwith_ok (n := ⟨8, noC, (j : Int), 0, 17, 0⟩) hx16 noC_ok (by omega)) fun v8 G' H' _ hR hG57 hs => ?_)
      obtain ⟨rfl, hU57⟩ := hR
      replace hs : St _ _ [_] _ := hs
      replace ha := ha.mono hG57
      replace hw := hw.mono hG57
      replace hT := hT.mono hG57
      replace hx16 := hx16.mono hG57
      obtain ⟨Ay, cy, rfl⟩ := LstR.slice hU57
      refine O_a rfl ?_
      exact O_nil (⟨[(2, _), (7, _), (8, _), (9, _), (10, _)], ⟨rfl, rfl, rfl, rfl, rfl, trivial⟩, ⟨_, j + 1, _, _, 8, 0, 0, 0, 0, (j : Int), 0, 17, 0, 2, _, hU57, by rw [List.length_append, hln]; rfl, by omega, un_valid' hIT hln (by omega) (rep_big j) (by decide), .inr rfl, noC_ok, rfl, hs⟩⟩)
     ·
      dsimp only [cmpP] at h50
      refine O_a rfl ?_
      refine O_nil (T_kp [2, 7, 8, 9, 10, 24, 49] rfl ?_)
      refine T_condF rfl (T_seq (T_region rfl ?_))
      refine O_y hs (Y_cmpS rfl rfl rfl (fun h59 => ?_) (fun h59 => ?_))
      ·
       dsimp only [cmpP] at h59
       refine O_a rfl ?_
       refine O_nil (T_kp [2, 7, 8, 9, 10, 24, 58] rfl ?_)
       refine T_condT rfl (T_seq (T_region rfl ?_))
       refine O_m rfl ?_
       refine O_y hs (Y_len Tryz.underlying24 rfl ?_)
       refine O_y hs (Y_sub (c := (j : Int)) rfl rfl (by omega) (by omega) ?_)
       refine O_y hs (Y_build Tryz.zeroValue42 rfl PL42 rfl (cs := [_, _, _, _, _, _, _, _, _]) rfl ?_)
       refine O_n (S_stA hs Tryz.sizeOf42 rfl rfl (vs := [_, _, _, _, _, _, _, _, _]) rfl (rfl) (by simp) (cs' := [_, _, _, _, _, _, _, _, _]) rfl fun _ hs => ?_)
       refine O_nil (T_kp [2, 7, 8, 9, 10] rfl ?_)
       refine T_region rfl ?_
       refine O_m rfl ?_
       refine O_y hs (Y_ldA 0 Tryz.isAgg42 Tryz.sizeOf42 rfl rfl (vs := [_, _, _, _, _, _, _, _, _]) rfl rfl ?_)
       refine O_s (S_call (H1 := []) hs rfl Tryz.func29 rfl (by kernel_rfl) (rwith_ok (n := ⟨8, noC, (j : Int), 0, 2, 1⟩) hx16 noC_ok (by omega)) fun v9 G' H' _ hR hG66 hs => ?_)
       obtain ⟨rfl, hU66⟩ := hR
       replace hs : St _ _ [_] _ := hs
       replace ha := ha.mono hG66
       replace hw := hw.mono hG66
       replace hT := hT.mono hG66
       replace hx16 := hx16.mono hG66
       obtain ⟨Ay, cy, rfl⟩ := LstR.slice hU66
       refine O_a rfl ?_
       exact O_nil (⟨[(2, _), (7, _), (8, _), (9, _), (10, _)], ⟨rfl, rfl, rfl, rfl, rfl, trivial⟩, ⟨_, j + 1, _, _, 8, 0, 0, 0, 0, (j : Int), 0, 2, 1, 1, _, hU66, by rw [List.length_append, hln]; rfl, by omega, un_valid' hIT hln (by omega) (rep_bad j) (by decide), .inl rfl, noC_ok, rfl, hs⟩⟩)
      ·
       dsimp only [cmpP] at h59
       refine O_a rfl ?_
       refine O_nil (T_kp [2, 7, 8, 9, 10, 24, 58] rfl ?_)
       refine T_condF rfl (T_seq (T_region rfl ?_))
       refine O_y hs (Y_cmpT rfl rfl rfl (by omega) ?_)
       refine O_a rfl ?_
       refine O_nil (T_kp [2, 7, 8, 9, 10, 67] rfl ?_)
       refine T_condT rfl (T_seq (T_region rfl ?_))
       refine O_y hs (Y_build Tryz.zeroValue42 rfl PL42 rfl (cs := [_, _, _, _, _, _, _, _, _]) rfl ?_)
       refine O_n (S_stA hs Tryz.sizeOf42 rfl rfl (vs := [_, _, _, _, _, _, _, _, _]) rfl (rfl) (by simp) (cs' := [_, _, _, _, _, _, _, _, _]) rfl fun _ hs => ?_)
       refine O_nil (T_kp [2, 7, 8, 9, 10] rfl ?_)
       refine T_region rfl ?_
       refine O_m rfl ?_
       refine O_y hs (Y_ldA 0 Tryz.isAgg42 Tryz.sizeOf42 rfl rfl (vs := [_, _, _, _, _, _, _, _, _]) rfl rfl ?_)
       refine O_s (S_call (H1 := []) hs rfl Tryz.func29 rfl (by kernel_rfl) (rwith_ok (n := leafN 2 noC) hx16 noC_ok (by omega)) fun v10 G' H' _ hR hG72 hs => ?_)
       obtain ⟨rfl, hU72⟩ := hR
       replace hs : St _ _ [_] _ := hs
       replace ha := ha.mono hG72
       replace hw := hw.mono hG72
       replace hT := hT.mono hG72
       replace hx16 := hx16.mono hG72
       obtain ⟨Ay, cy, rfl⟩ := LstR.slice hU72
       refine O_a rfl ?_
       exact O_nil (⟨[(2, _), (7, _), (8, _), (9, _), (10, _)], ⟨rfl, rfl, rfl, rfl, rfl, trivial⟩, ⟨_, j + 1, _, _, 2, 0, 0, 0, 0, 0, 0, 0, 0, 1, _, hU72, by rw [List.length_append, hln]; rfl, by omega, eps_valid' hIT hln (by omega), .inl rfl, noC_ok, rfl, hs⟩⟩)
  clear hs
  intro D M L w hL hI
  obtain ⟨x2, j2, Ax2, cx2, kd, c0, c1, c2, c3, ll, rr, mn, mx, e, G', hx2, hl2, hj2, hv, he, hcc, hE, hs⟩ := hI
  cases hE
  refine T_sub _ hL ?_
  have hw := hw0.mono hs.le
  have hT := hT0.mono hs.le
  replace he : ¬ e = 0 := by omega
  refine T_seq (T_drawS [0, 1, 2, 3, 4, 5, 6, 7] hs (by kernel_rfl) ?_)
  replace hs := hs.drew
  refine A_take 0 rfl (by kernel_rfl) rfl hs (Y_move rfl ?_)
  refine A_take 1 rfl (by kernel_rfl) rfl hs (Y_move rfl ?_)
  refine A_take 2 rfl (by kernel_rfl) rfl hs (Y_len Tryz.underlying24 rfl ?_)
  refine A_take 3 rfl (by kernel_rfl) rfl hs (Y_sub (c := (j2 : Int)) rfl rfl (by omega) (by omega) ?_)
  refine A_take 4 rfl (by kernel_rfl) rfl hs (Y_takeN hx2 j2 Tryz.underlying24 Tryz.sizeOf42 rfl ⟨_, _, rfl, rfl⟩ (by omega) fun s77 hs77 => ?_)
  refine A_take 5 rfl (by kernel_rfl) rfl hs (Y_ldA 0 Tryz.isAgg42 Tryz.sizeOf42 rfl rfl (vs := [_, _, _, _, _, _, _, _, _]) rfl rfl ?_)
  have hle := hs.le
  refine A_only 6 rfl (by kernel_rfl) rfl (S_call (H1 := []) hs rfl Tryz.func29 rfl (by kernel_rfl) (rwith_ok (n := ⟨kd, [c0, c1, c2, c3], ll, rr, mn, mx⟩) hs77 hcc (by rw [List.length_take]; omega)) fun v11 G' H' _ hR hG79 hs => ?_)
  obtain ⟨rfl, hU79⟩ := hR
  replace hs : St _ _ [_] _ := hs
  replace hw := hw.mono hG79
  replace hT := hT.mono hG79
  replace hx2 := hx2.mono hG79
  refine A_moreS hs hle hG79 (List.Sublist.refl _) ?_
  refine A_take 7 rfl (by kernel_rfl) rfl hs (Y_assign rfl ?_)
  refine A_done (by kernel_rfl) (T_kp [2, 7, 10, 11] rfl ?_)
  refine T_seq (T_region rfl ?_)
  refine O_m rfl ?_
  refine O_s (S_call (H1 := []) hs rfl Tryz.func17 rfl (by kernel_rfl) (fmt_ok' hU79 (by rw [List.length_append, List.length_take, List.length_singleton]; omega) hT (format_bad hv he)) fun v12 G' H' _ hR hG82 hs => ?_)
  obtain ⟨rfl, rfl⟩ := hR
  replace hs : St _ _ [_] _ := hs
  replace hw := hw.mono hG82
  replace hT := hT.mono hG82
  replace hx2 := hx2.mono hG82
  replace hU79 := hU79.mono hG82
  refine O_m rfl ?_
  refine O_y hs (Y_extract rfl rfl ?_)
  refine O_y hs (Y_extract rfl rfl ?_)
  refine O_a rfl ?_
  refine O_a rfl ?_
  refine O_nil (T_kp [2, 7, 10, 11, 12, 13] rfl ?_)
  refine T_seq (T_region rfl ?_)
  refine O_m rfl ?_
  refine O_m rfl ?_
  refine O_yy 86 hs rfl rfl (Y_move rfl ?_)
  refine O_yes 86 rfl rfl (S_call (H1 := []) hs rfl Tryz.func24 rfl (by kernel_rfl) (valid_ok' hU79 (by rw [List.length_append, List.length_take, List.length_singleton]; omega) hv) fun v13 G' H' _ hR hG88 hs => ?_)
  obtain ⟨rfl, rfl⟩ := hR
  replace hs : St _ _ [_] _ := hs
  replace hw := hw.mono hG88
  replace hT := hT.mono hG88
  replace hx2 := hx2.mono hG88
  replace hU79 := hU79.mono hG88
  refine O_yy 86 hs rfl rfl (Y_move rfl ?_)
  refine O_yy 86 hs rfl rfl (Y_cmpT rfl rfl rfl (rfl) ?_)
  refine O_y hs (Y_pickT rfl rfl ?_)
  refine O_m rfl ?_
  refine O_yy 92 hs rfl rfl (Y_move rfl ?_)
  refine O_yy 92 hs rfl rfl (Y_strEq (b := true) rfl rfl ⟨fun _ => rfl, fun _ => rfl⟩ ?_)
  refine O_y hs (Y_pickT rfl rfl ?_)
  refine O_m rfl ?_
  refine O_yy 96 hs rfl rfl (Y_move rfl ?_)
  refine O_yy 96 hs rfl rfl (Y_move rfl ?_)
  refine O_yy 96 hs rfl rfl (Y_cmpT rfl rfl rfl (rfl) ?_)
  refine O_y hs (Y_pickT rfl rfl ?_)
  refine O_m rfl ?_
  refine O_yy 101 hs rfl rfl (Y_move rfl ?_)
  refine O_yy 101 hs rfl rfl (Y_move rfl ?_)
  refine O_yes 101 rfl rfl (S_call (H1 := []) hs rfl Tryz.func21 rfl (by kernel_rfl) (match_ok' hU79 hw (by rw [List.length_append, List.length_take, List.length_singleton]; omega) (by omega) (match_bad hv he _)) fun v14 G' H' _ hR hG104 hs => ?_)
  obtain ⟨rfl, rfl⟩ := hR
  replace hs : St _ _ [_] _ := hs
  replace hw := hw.mono hG104
  replace hT := hT.mono hG104
  replace hx2 := hx2.mono hG104
  replace hU79 := hU79.mono hG104
  refine O_yy 101 hs rfl rfl (Y_not rfl ?_)
  refine O_y hs (Y_pickT rfl rfl ?_)
  refine O_m rfl ?_
  refine O_yy 107 hs rfl rfl (Y_move rfl ?_)
  refine O_yes 107 rfl rfl (S_call (H1 := []) hs rfl Tryz.func26 rfl (by kernel_rfl) (null_ok' hU79 (by rw [List.length_append, List.length_take, List.length_singleton]; omega) (match_bad hv he _)) fun v15 G' H' _ hR hG109 hs => ?_)
  obtain ⟨rfl, rfl⟩ := hR
  replace hs : St _ _ [_] _ := hs
  replace hw := hw.mono hG109
  replace hT := hT.mono hG109
  replace hx2 := hx2.mono hG109
  replace hU79 := hU79.mono hG109
  refine O_yy 107 hs rfl rfl (Y_not rfl ?_)
  refine O_y hs (Y_pickT rfl rfl ?_)
  refine O_a rfl ?_
  refine O_nil (T_kp [6] rfl ?_)
  refine T_ret ?_
  refine Rt_fin (vs := [_]) Tryz.results11 rfl ⟨rfl, trivial⟩ ?_
  try dsimp only [tup]
  exact ⟨_, [], hs.done, rfl, rfl⟩

end Go.Proofs.YtkmgbcjfidpmgaaGreatDoor
