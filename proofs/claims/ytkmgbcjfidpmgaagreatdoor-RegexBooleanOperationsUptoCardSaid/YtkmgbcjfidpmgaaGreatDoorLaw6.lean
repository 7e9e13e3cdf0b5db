import Derived.Test.YtkmgbcjfidpmgaaGreatDoorExWalks9
import Derived.Test.YtkmgbcjfidpmgaaGreatDoorProg
import Derived.Test.YtkmgbcjfidpmgaaGreatDoorSame
import Derived.Test.YtkmgbcjfidpmgaaGreatDoorExThin
import Derived.Test.YtkmgbcjfidpmgaaGreatDoorShelf
namespace Go.Proofs.YtkmgbcjfidpmgaaGreatDoor
open Go Go.Ex Go.RowKit


theorem Y_boolEq1 {x : Cx} {W : World → Prop} {E : Env} {K : Value → Prop} {d : Option Tmp} {ty : TypeId} {pos : String} {aft : Array Edge} {g : Option (Nat × Bool)} {o p : Operand} {xt yt : TypeId} {a b : Bool} (hu : x.P.underlying xt = some .bool) (h1 : ev E o = some (.bool a)) (h2 : ev E p = some (.bool b)) (hab : a = b) (k : K (.bool true)) : Y x W ⟨d, .binOp .eql xt o p yt, ty, pos, aft, g⟩ E K :=
  Y_boolEqS hu h1 h2 (fun _ => k) (fun h => absurd hab h)
theorem null_ok' {G : Ghost} {v : Value} {l : List NodeV} {x : Bool} (hx : Rx G v l) (hl : l.length ≤ 1000000000) (h : matchF l [] = x) : FnOk Tryz.prog 26 [v] G [] fun r _ H' => H' = [] ∧ r = .bool x := by have := null_ok hx hl; rw [h] at this; exact this


theorem rep_ok2 {k : Nat} {mx : Int} {a : Rg} (hx : (k ≤ 15 ∧ mx = -1) ∨ (k ≤ 15 ∧ mx ≤ 16 ∧ (k : Int) ≤ mx)) (ha : TreeOk a) : TreeOk (.rep (k : Int) mx a) := by
  refine ⟨by omega, by omega, by omega, ?_, ha⟩
  rcases hx with h | h
  · exact .inl h.2
  · exact .inr h.2.2


set_option maxHeartbeats 4000000 in
set_option maxRecDepth 10000 in
theorem lawBool {G : Ghost} {va vb vw : Value} {a b w : List UInt8} (ha : Bytes G va a) (hla : a.length ≤ 1048576) (hb : Bytes G vb b) (hlb : b.length ≤ 1048576) (hw : Bytes G vw w) (hlw : w.length ≤ 1048576) (hT : Tab G) :
  FnOk Tryz.prog 6 [va, vb, vw] G [] fun r _ H' => H' = [] ∧ r = .bool true := by
 obtain ⟨Aa, ca, rfl, _⟩ := id ha
 obtain ⟨Ab, cb, rfl, _⟩ := id hb
 obtain ⟨Aw, cw, rfl, _⟩ := id hw
 refine FnOk.of_T [(0, _), (1, _), (2, _)] Tryz.func6 rfl Tryz.ntmps6 (by simp) rfl fun w0 hs => ?_
 have ha0 := ha
 have hb0 := hb
 have hw0 := hw
 have hT0 := hT
 refine T_seq (T_region rfl ?_)
 refine O_a rfl ?_
 refine O_nil (T_kp [0, 1, 2] rfl ?_)
 refine T_seq (T_region rfl ?_)
 refine O_s (S_call (H1 := []) hs rfl Tryz.func12 rfl (by kernel_rfl) (sanity_ok hT) fun v1 G' H' _ hR hG13 hs => ?_)
 obtain ⟨rfl, rfl⟩ := hR
 replace hs : St _ _ [] _ := hs
 replace ha := ha.mono hG13
 replace hb := hb.mono hG13
 replace hw := hw.mono hG13
 replace hT := hT.mono hG13
 refine O_a rfl ?_
 refine O_nil (T_kp [0, 1, 2, 7] rfl ?_)
 refine T_seq (T_region rfl ?_)
 refine O_m rfl ?_
 refine O_s (S_call (H1 := []) hs rfl Tryz.func19 rfl (by kernel_rfl) (small_ok (n := 10) hw) fun v2 G' H' _ hR hG15 hs => ?_)
 obtain ⟨rfl, hw15⟩ := hR
 replace hs : St _ _ [] _ := hs
 replace ha := ha.mono hG15
 replace hb := hb.mono hG15
 replace hw := hw.mono hG15
 replace hT := hT.mono hG15
 obtain ⟨W, hWe⟩ : ∃ W, W = w.take 10 := ⟨_, rfl⟩
 have hWl : W.length ≤ 10 := by rw [hWe, List.length_take]; omega
 rw [← hWe] at hw15
 obtain ⟨Aw15, cw15, rfl, _⟩ := id hw15
 refine O_a rfl ?_
 refine O_nil (T_kp [0, 1, 7, 8] rfl ?_)
 refine T_seq (T_region rfl ?_)
 refine O_m rfl ?_
 refine O_s (S_call (H1 := []) hs rfl Tryz.func16 rfl (by kernel_rfl) (made_ok (most := 20) (by decide) 1048576 _ _ a (by omega) (Nat.le_refl _) ha) fun v3 G' H' _ hR hG17 hs => ?_)
 obtain ⟨rfl, _, hx17, ⟨t17, hok17, hsh17, rfl⟩, hlx17⟩ := hR
 replace hs : St _ _ [] _ := hs
 replace ha := ha.mono hG17
 replace hb := hb.mono hG17
 replace hw := hw.mono hG17
 replace hT := hT.mono hG17
 replace hw15 := hw15.mono hG17
 rw [nodesT_len] at hlx17
 obtain ⟨Ax17, cx17, rfl⟩ := LstR.slice hx17
 refine O_a rfl ?_
 refine O_nil (T_kp [1, 7, 8, 9] rfl ?_)
 refine T_seq (T_region rfl ?_)
 refine O_m rfl ?_
 refine O_s (S_call (H1 := []) hs rfl Tryz.func16 rfl (by kernel_rfl) (made_ok (most := 20) (by decide) 1048576 _ _ b (by omega) (Nat.le_refl _) hb) fun v4 G' H' _ hR hG19 hs => ?_)
 obtain ⟨rfl, _, hx19, ⟨t19, hok19, hsh19, rfl⟩, hlx19⟩ := hR
 replace hs : St _ _ [] _ := hs
 replace ha := ha.mono hG19
 replace hb := hb.mono hG19
 replace hw := hw.mono hG19
 replace hT := hT.mono hG19
 replace hw15 := hw15.mono hG19
 replace hx17 := hx17.mono hG19
 rw [nodesT_len] at hlx19
 obtain ⟨Ax19, cx19, rfl⟩ := LstR.slice hx19
 refine O_a rfl ?_
 refine O_nil (T_kp [7, 8, 9, 10] rfl ?_)
 refine T_seq (T_region rfl ?_)
 refine O_m rfl ?_
 refine O_m rfl ?_
 refine O_s (S_call (H1 := []) hs rfl Tryz.func21 rfl (by kernel_rfl) (match_ok hx17 hw15 (by rw [nodesT_len]; (try simp only [sizeT]); omega) (by first | omega | (simp only [List.length_take, List.length_drop]; omega))) fun v5 G' H' _ hR hG22 hs => ?_)
 obtain ⟨rfl, rfl⟩ := hR
 replace hs : St _ _ [] _ := hs
 replace ha := ha.mono hG22
 replace hb := hb.mono hG22
 replace hw := hw.mono hG22
 replace hT := hT.mono hG22
 replace hw15 := hw15.mono hG22
 replace hx17 := hx17.mono hG22
 replace hx19 := hx19.mono hG22
 cases h22 : matchF (nodesT 0 t17) W
 ·
  refine O_a rfl ?_
  refine O_nil (T_kp [7, 8, 9, 10, 11] rfl ?_)
  refine T_seq (T_region rfl ?_)
  refine O_m rfl ?_
  refine O_m rfl ?_
  refine O_s (S_call (H1 := []) hs rfl Tryz.func21 rfl (by kernel_rfl) (match_ok hx19 hw15 (by rw [nodesT_len]; (try simp only [sizeT]); omega) (by first | omega | (simp only [List.length_take, List.length_drop]; omega))) fun v6 G' H' _ hR hG25 hs => ?_)
  obtain ⟨rfl, rfl⟩ := hR
  replace hs : St _ _ [] _ := hs
  replace ha := ha.mono hG25
  replace hb := hb.mono hG25
  replace hw := hw.mono hG25
  replace hT := hT.mono hG25
  replace hw15 := hw15.mono hG25
  replace hx17 := hx17.mono hG25
  replace hx19 := hx19.mono hG25
  cases h25 : matchF (nodesT 0 t19) W
  ·
   refine O_a rfl ?_
   refine O_nil (T_kp [7, 8, 9, 10, 11, 12] rfl ?_)
   refine T_seq (T_region rfl ?_)
   refine O_m rfl ?_
   refine O_m rfl ?_
   refine O_yy 27 hs rfl rfl (Y_move rfl ?_)
   refine O_yy 27 hs rfl rfl (Y_move rfl ?_)
   refine O_yes 27 rfl rfl (S_call (H1 := []) hs rfl Tryz.func20 rfl (by kernel_rfl) (rbin_ok (kk := 5) hx17 hx19 (by rw [nodesT_len]; omega) (by rw [nodesT_len]; (try simp only [sizeT]); omega) (IsTree.rng ⟨_, hok19, hsh19, rfl⟩ (by rw [nodesT_len]; (try simp only [sizeT]); omega))) fun v7 G' H' _ hR hG30 hs => ?_)
   obtain ⟨rfl, hU30⟩ := hR
   replace hs : St _ _ [] _ := hs
   replace ha := ha.mono hG30
   replace hb := hb.mono hG30
   replace hw := hw.mono hG30
   replace hT := hT.mono hG30
   replace hw15 := hw15.mono hG30
   replace hx17 := hx17.mono hG30
   replace hx19 := hx19.mono hG30
   rw [binF_nodes (.inr (.inl rfl))] at hU30
   change Rx _ _ (nodesT 0 (.alt t17 t19)) at hU30
   refine O_yy 27 hs rfl rfl (Y_move rfl ?_)
   refine O_yes 27 rfl rfl (S_call (H1 := []) hs rfl Tryz.func21 rfl (by kernel_rfl) (match_ok hU30 hw15 (by rw [nodesT_len]; (try simp only [sizeT]); omega) (by first | omega | (simp only [List.length_take, List.length_drop]; omega))) fun v8 G' H' _ hR hG32 hs => ?_)
   obtain ⟨rfl, rfl⟩ := hR
   replace hs : St _ _ [] _ := hs
   replace ha := ha.mono hG32
   replace hb := hb.mono hG32
   replace hw := hw.mono hG32
   replace hT := hT.mono hG32
   replace hw15 := hw15.mono hG32
   replace hx17 := hx17.mono hG32
   replace hx19 := hx19.mono hG32
   replace hU30 := hU30.mono hG32
   refine O_yy 27 hs rfl rfl (Y_move rfl ?_)
   refine O_yy 27 hs rfl rfl (Y_move rfl ?_)
   refine O_yy 34 hs rfl rfl (Y_move rfl ?_)
   refine O_yy 27 hs rfl rfl (Y_pickF rfl rfl ?_)
   refine O_yy 27 hs rfl rfl (Y_boolEq1 Tryz.underlying4 rfl rfl (by rw [match_alt hok17 hok19 (by omega) (by omega), h22, h25]; rfl) ?_)
   refine O_y hs (Y_pickT rfl rfl ?_)
   refine O_m rfl ?_
   refine O_yy 39 hs rfl rfl (Y_move rfl ?_)
   refine O_yy 39 hs rfl rfl (Y_move rfl ?_)
   refine O_yes 39 rfl rfl (S_call (H1 := []) hs rfl Tryz.func20 rfl (by kernel_rfl) (rbin_ok (kk := 6) hx17 hx19 (by rw [nodesT_len]; omega) (by rw [nodesT_len]; (try simp only [sizeT]); omega) (IsTree.rng ⟨_, hok19, hsh19, rfl⟩ (by rw [nodesT_len]; (try simp only [sizeT]); omega))) fun v9 G' H' _ hR hG42 hs => ?_)
   obtain ⟨rfl, hU42⟩ := hR
   replace hs : St _ _ [] _ := hs
   replace ha := ha.mono hG42
   replace hb := hb.mono hG42
   replace hw := hw.mono hG42
   replace hT := hT.mono hG42
   replace hw15 := hw15.mono hG42
   replace hx17 := hx17.mono hG42
   replace hx19 := hx19.mono hG42
   replace hU30 := hU30.mono hG42
   rw [binF_nodes (.inr (.inr rfl))] at hU42
   change Rx _ _ (nodesT 0 (.and t17 t19)) at hU42
   refine O_yy 39 hs rfl rfl (Y_move rfl ?_)
   refine O_yes 39 rfl rfl (S_call (H1 := []) hs rfl Tryz.func21 rfl (by kernel_rfl) (match_ok hU42 hw15 (by rw [nodesT_len]; (try simp only [sizeT]); omega) (by first | omega | (simp only [List.length_take, List.length_drop]; omega))) fun v10 G' H' _ hR hG44 hs => ?_)
   obtain ⟨rfl, rfl⟩ := hR
   replace hs : St _ _ [] _ := hs
   replace ha := ha.mono hG44
   replace hb := hb.mono hG44
   replace hw := hw.mono hG44
   replace hT := hT.mono hG44
   replace hw15 := hw15.mono hG44
   replace hx17 := hx17.mono hG44
   replace hx19 := hx19.mono hG44
   replace hU30 := hU30.mono hG44
   replace hU42 := hU42.mono hG44
   refine O_yy 39 hs rfl rfl (Y_move rfl ?_)
   refine O_yy 39 hs rfl rfl (Y_move rfl ?_)
   refine O_no 46 rfl rfl ?_
   refine O_yy 39 hs rfl rfl (Y_pickF rfl rfl ?_)
   refine O_yy 39 hs rfl rfl (Y_boolEq1 Tryz.underlying4 rfl rfl (by rw [match_and hok17 hok19 (by omega) (by omega), h22, h25]; rfl) ?_)
   refine O_y hs (Y_pickT rfl rfl ?_)
   refine O_m rfl ?_
   refine O_yy 51 hs rfl rfl (Y_build Tryz.zeroValue42 rfl PL42 rfl (cs := [_, _, _, _, _, _, _, _, _]) rfl ?_)
   refine O_yy 51 hs rfl rfl (Y_move rfl ?_)
   refine O_yes 51 rfl rfl (S_call (H1 := []) hs rfl Tryz.func22 rfl (by kernel_rfl) (run_ok (n := ⟨7, noC, 0, 0, 0, 0⟩) hx17 noC_ok (by rw [nodesT_len]; omega)) fun v11 G' H' _ hR hG54 hs => ?_)
   obtain ⟨rfl, hU54⟩ := hR
   replace hs : St _ _ [] _ := hs
   replace ha := ha.mono hG54
   replace hb := hb.mono hG54
   replace hw := hw.mono hG54
   replace hT := hT.mono hG54
   replace hw15 := hw15.mono hG54
   replace hx17 := hx17.mono hG54
   replace hx19 := hx19.mono hG54
   replace hU30 := hU30.mono hG54
   replace hU42 := hU42.mono hG54
   rw [unF_not] at hU54
   refine O_yy 51 hs rfl rfl (Y_move rfl ?_)
   refine O_yes 51 rfl rfl (S_call (H1 := []) hs rfl Tryz.func21 rfl (by kernel_rfl) (match_ok hU54 hw15 (by rw [nodesT_len]; (try simp only [sizeT]); omega) (by first | omega | (simp only [List.length_take, List.length_drop]; omega))) fun v12 G' H' _ hR hG56 hs => ?_)
   obtain ⟨rfl, rfl⟩ := hR
   replace hs : St _ _ [] _ := hs
   replace ha := ha.mono hG56
   replace hb := hb.mono hG56
   replace hw := hw.mono hG56
   replace hT := hT.mono hG56
   replace hw15 := hw15.mono hG56
   replace hx17 := hx17.mono hG56
   replace hx19 := hx19.mono hG56
   replace hU30 := hU30.mono hG56
   replace hU42 := hU42.mono hG56
   replace hU54 := hU54.mono hG56
   refine O_yy 51 hs rfl rfl (Y_move rfl ?_)
   refine O_yy 51 hs rfl rfl (Y_not rfl ?_)
   refine O_yy 51 hs rfl rfl (Y_boolEq1 Tryz.underlying4 rfl rfl (by rw [match_not hok17 (by omega), h22]; try rfl) ?_)
   refine O_y hs (Y_pickT rfl rfl ?_)
   refine O_a rfl ?_
   refine O_nil (T_kp [6] rfl ?_)
   refine T_ret ?_
   refine Rt_fin (vs := [_]) Tryz.results6 rfl ⟨rfl, trivial⟩ ?_
   try dsimp only [tup]
   exact ⟨_, [], hs.done, rfl, rfl⟩
  ·
   refine O_a rfl ?_
   refine O_nil (T_kp [7, 8, 9, 10, 11, 12] rfl ?_)
   refine T_seq (T_region rfl ?_)
   refine O_m rfl ?_
   refine O_m rfl ?_
   refine O_yy 27 hs rfl rfl (Y_move rfl ?_)
   refine O_yy 27 hs rfl rfl (Y_move rfl ?_)
   refine O_yes 27 rfl rfl (S_call (H1 := []) hs rfl Tryz.func20 rfl (by kernel_rfl) (rbin_ok (kk := 5) hx17 hx19 (by rw [nodesT_len]; omega) (by rw [nodesT_len]; (try simp only [sizeT]); omega) (IsTree.rng ⟨_, hok19, hsh19, rfl⟩ (by rw [nodesT_len]; (try simp only [sizeT]); omega))) fun v13 G' H' _ hR hG30 hs => ?_)
   obtain ⟨rfl, hU30⟩ := hR
   replace hs : St _ _ [] _ := hs
   replace ha := ha.mono hG30
   replace hb := hb.mono hG30
   replace hw := hw.mono hG30
   replace hT := hT.mono hG30
   replace hw15 := hw15.mono hG30
   replace hx17 := hx17.mono hG30
   replace hx19 := hx19.mono hG30
   rw [binF_nodes (.inr (.inl rfl))] at hU30
   change Rx _ _ (nodesT 0 (.alt t17 t19)) at hU30
   refine O_yy 27 hs rfl rfl (Y_move rfl ?_)
   refine O_yes 27 rfl rfl (S_call (H1 := []) hs rfl Tryz.func21 rfl (by kernel_rfl) (match_ok hU30 hw15 (by rw [nodesT_len]; (try simp only [sizeT]); omega) (by first | omega | (simp only [List.length_take, List.length_drop]; omega))) fun v14 G' H' _ hR hG32 hs => ?_)
   obtain ⟨rfl, rfl⟩ := hR
   replace hs : St _ _ [] _ := hs
   replace ha := ha.mono hG32
   replace hb := hb.mono hG32
   replace hw := hw.mono hG32
   replace hT := hT.mono hG32
   replace hw15 := hw15.mono hG32
   replace hx17 := hx17.mono hG32
   replace hx19 := hx19.mono hG32
   replace hU30 := hU30.mono hG32
   refine O_yy 27 hs rfl rfl (Y_move rfl ?_)
   refine O_yy 27 hs rfl rfl (Y_move rfl ?_)
   refine O_yy 34 hs rfl rfl (Y_move rfl ?_)
   refine O_yy 27 hs rfl rfl (Y_pickF rfl rfl ?_)
   refine O_yy 27 hs rfl rfl (Y_boolEq1 Tryz.underlying4 rfl rfl (by rw [match_alt hok17 hok19 (by omega) (by omega), h22, h25]; rfl) ?_)
   refine O_y hs (Y_pickT rfl rfl ?_)
   refine O_m rfl ?_
   refine O_yy 39 hs rfl rfl (Y_move rfl ?_)
   refine O_yy 39 hs rfl rfl (Y_move rfl ?_)
   refine O_yes 39 rfl rfl (S_call (H1 := []) hs rfl Tryz.func20 rfl (by kernel_rfl) (rbin_ok (kk := 6) hx17 hx19 (by rw [nodesT_len]; omega) (by rw [nodesT_len]; (try simp only [sizeT]); omega) (IsTree.rng ⟨_, hok19, hsh19, rfl⟩ (by rw [nodesT_len]; (try simp only [sizeT]); omega))) fun v15 G' H' _ hR hG42 hs => ?_)
   obtain ⟨rfl, hU42⟩ := hR
   replace hs : St _ _ [] _ := hs
   replace ha := ha.mono hG42
   replace hb := hb.mono hG42
   replace hw := hw.mono hG42
   replace hT := hT.mono hG42
   replace hw15 := hw15.mono hG42
   replace hx17 := hx17.mono hG42
   replace hx19 := hx19.mono hG42
   replace hU30 := hU30.mono hG42
   rw [binF_nodes (.inr (.inr rfl))] at hU42
   change Rx _ _ (nodesT 0 (.and t17 t19)) at hU42
   refine O_yy 39 hs rfl rfl (Y_move rfl ?_)
   refine O_yes 39 rfl rfl (S_call (H1 := []) hs rfl Tryz.func21 rfl (by kernel_rfl) (match_ok hU42 hw15 (by rw [nodesT_len]; (try simp only [sizeT]); omega) (by first | omega | (simp only [List.length_take, List.length_drop]; omega))) fun v16 G' H' _ hR hG44 hs => ?_)
   obtain ⟨rfl, rfl⟩ := hR
   replace hs : St _ _ [] _ := hs
   replace ha := ha.mono hG44
   replace hb := hb.mono hG44
   replace hw := hw.mono hG44
   replace hT := hT.mono hG44
   replace hw15 := hw15.mono hG44
   replace hx17 := hx17.mono hG44
   replace hx19 := hx19.mono hG44
   replace hU30 := hU30.mono hG44
   replace hU42 := hU42.mono hG44
   refine O_yy 39 hs rfl rfl (Y_move rfl ?_)
   refine O_yy 39 hs rfl rfl (Y_move rfl ?_)
   refine O_no 46 rfl rfl ?_
   refine O_yy 39 hs rfl rfl (Y_pickF rfl rfl ?_)
   refine O_yy 39 hs rfl rfl (Y_boolEq1 Tryz.underlying4 rfl rfl (by rw [match_and hok17 hok19 (by omega) (by omega), h22, h25]; rfl) ?_)
   refine O_y hs (Y_pickT rfl rfl ?_)
   refine O_m rfl ?_
   refine O_yy 51 hs rfl rfl (Y_build Tryz.zeroValue42 rfl PL42 rfl (cs := [_, _, _, _, _, _, _, _, _]) rfl ?_)
   refine O_yy 51 hs rfl rfl (Y_move rfl ?_)
   refine O_yes 51 rfl rfl (S_call (H1 := []) hs rfl Tryz.func22 rfl (by kernel_rfl) (run_ok (n := ⟨7, noC, 0, 0, 0, 0⟩) hx17 noC_ok (by rw [nodesT_len]; omega)) fun v17 G' H' _ hR hG54 hs => ?_)
   obtain ⟨rfl, hU54⟩ := hR
   replace hs : St _ _ [] _ := hs
   replace ha := ha.mono hG54
   replace hb := hb.mono hG54
   replace hw := hw.mono hG54
   replace hT := hT.mono hG54
   replace hw15 := hw15.mono hG54
   replace hx17 := hx17.mono hG54
   replace hx19 := hx19.mono hG54
   replace hU30 := hU30.mono hG54
   replace hU42 := hU42.mono hG54
   rw [unF_not] at hU54
   refine O_yy 51 hs rfl rfl (Y_move rfl ?_)
   refine O_yes 51 rfl rfl (S_call (H1 := []) hs rfl Tryz.func21 rfl (by kernel_rfl) (match_ok hU54 hw15 (by rw [nodesT_len]; (try simp only [sizeT]); omega) (by first | omega | (simp only [List.length_take, List.length_drop]; omega))) fun v18 G' H' _ hR hG56 hs => ?_)
   obtain ⟨rfl, rfl⟩ := hR
   replace hs : St _ _ [] _ := hs
   replace ha := ha.mono hG56
   replace hb := hb.mono hG56
   replace hw := hw.mono hG56
   replace hT := hT.mono hG56
   replace hw15 := hw15.mono hG56
   replace hx17 := hx17.mono hG56
   replace hx19 := hx19.mono hG56
   replace hU30 := hU30.mono hG56
   replace hU42 := hU42.mono hG56
   replace hU54 := hU54.mono hG56
   refine O_yy 51 hs rfl rfl (Y_move rfl ?_)
   refine O_yy 51 hs rfl rfl (Y_not rfl ?_)
   refine O_yy 51 hs rfl rfl (Y_boolEq1 Tryz.underlying4 rfl rfl (by rw [match_not hok17 (by omega), h22]; try rfl) ?_)
   refine O_y hs (Y_pickT rfl rfl ?_)
   refine O_a rfl ?_
   refine O_nil (T_kp [6] rfl ?_)
   refine T_ret ?_
   refine Rt_fin (vs := [_]) Tryz.results6 rfl ⟨rfl, trivial⟩ ?_
   try dsimp only [tup]
   exact ⟨_, [], hs.done, rfl, rfl⟩
 ·
  refine O_a rfl ?_
  refine O_nil (T_kp [7, 8, 9, 10, 11] rfl ?_)
  refine T_seq (T_region rfl ?_)
  refine O_m rfl ?_
  refine O_m rfl ?_
  refine O_s (S_call (H1 := []) hs rfl Tryz.func21 rfl (by kernel_rfl) (match_ok hx19 hw15 (by rw [nodesT_len]; (try simp only [sizeT]); omega) (by first | omega | (simp only [List.length_take, List.length_drop]; omega))) fun v19 G' H' _ hR hG25 hs => ?_)
  obtain ⟨rfl, rfl⟩ := hR
  replace hs : St _ _ [] _ := hs
  replace ha := ha.mono hG25
  replace hb := hb.mono hG25
  replace hw := hw.mono hG25
  replace hT := hT.mono hG25
  replace hw15 := hw15.mono hG25
  replace hx17 := hx17.mono hG25
  replace hx19 := hx19.mono hG25
  cases h25 : matchF (nodesT 0 t19) W
  ·
   refine O_a rfl ?_
   refine O_nil (T_kp [7, 8, 9, 10, 11, 12] rfl ?_)
   refine T_seq (T_region rfl ?_)
   refine O_m rfl ?_
   refine O_m rfl ?_
   refine O_yy 27 hs rfl rfl (Y_move rfl ?_)
   refine O_yy 27 hs rfl rfl (Y_move rfl ?_)
   refine O_yes 27 rfl rfl (S_call (H1 := []) hs rfl Tryz.func20 rfl (by kernel_rfl) (rbin_ok (kk := 5) hx17 hx19 (by rw [nodesT_len]; omega) (by rw [nodesT_len]; (try simp only [sizeT]); omega) (IsTree.rng ⟨_, hok19, hsh19, rfl⟩ (by rw [nodesT_len]; (try simp only [sizeT]); omega))) fun v20 G' H' _ hR hG30 hs => ?_)
   obtain ⟨rfl, hU30⟩ := hR
   replace hs : St _ _ [] _ := hs
   replace ha := ha.mono hG30
   replace hb := hb.mono hG30
   replace hw := hw.mono hG30
   replace hT := hT.mono hG30
   replace hw15 := hw15.mono hG30
   replace hx17 := hx17.mono hG30
   replace hx19 := hx19.mono hG30
   rw [binF_nodes (.inr (.inl rfl))] at hU30
   change Rx _ _ (nodesT 0 (.alt t17 t19)) at hU30
   refine O_yy 27 hs rfl rfl (Y_move rfl ?_)
   refine O_yes 27 rfl rfl (S_call (H1 := []) hs rfl Tryz.func21 rfl (by kernel_rfl) (match_ok hU30 hw15 (by rw [nodesT_len]; (try simp only [sizeT]); omega) (by first | omega | (simp only [List.length_take, List.length_drop]; omega))) fun v21 G' H' _ hR hG32 hs => ?_)
   obtain ⟨rfl, rfl⟩ := hR
   replace hs : St _ _ [] _ := hs
   replace ha := ha.mono hG32
   replace hb := hb.mono hG32
   replace hw := hw.mono hG32
   replace hT := hT.mono hG32
   replace hw15 := hw15.mono hG32
   replace hx17 := hx17.mono hG32
   replace hx19 := hx19.mono hG32
   replace hU30 := hU30.mono hG32
   refine O_yy 27 hs rfl rfl (Y_move rfl ?_)
   refine O_yy 27 hs rfl rfl (Y_move rfl ?_)
   refine O_no 34 rfl rfl ?_
   refine O_yy 27 hs rfl rfl (Y_pickT rfl rfl ?_)
   refine O_yy 27 hs rfl rfl (Y_boolEq1 Tryz.underlying4 rfl rfl (by rw [match_alt hok17 hok19 (by omega) (by omega), h22, h25]; rfl) ?_)
   refine O_y hs (Y_pickT rfl rfl ?_)
   refine O_m rfl ?_
   refine O_yy 39 hs rfl rfl (Y_move rfl ?_)
   refine O_yy 39 hs rfl rfl (Y_move rfl ?_)
   refine O_yes 39 rfl rfl (S_call (H1 := []) hs rfl Tryz.func20 rfl (by kernel_rfl) (rbin_ok (kk := 6) hx17 hx19 (by rw [nodesT_len]; omega) (by rw [nodesT_len]; (try simp only [sizeT]); omega) (IsTree.rng ⟨_, hok19, hsh19, rfl⟩ (by rw [nodesT_len]; (try simp only [sizeT]); omega))) fun v22 G' H' _ hR hG42 hs => ?_)
   obtain ⟨rfl, hU42⟩ := hR
   replace hs : St _ _ [] _ := hs
   replace ha := ha.mono hG42
   replace hb := hb.mono hG42
   replace hw := hw.mono hG42
   replace hT := hT.mono hG42
   replace hw15 := hw15.mono hG42
   replace hx17 := hx17.mono hG42
   replace hx19 := hx19.mono hG42
   replace hU30 := hU30.mono hG42
   rw [binF_nodes (.inr (.inr rfl))] at hU42
   change Rx _ _ (nodesT 0 (.and t17 t19)) at hU42
   refine O_yy 39 hs rfl rfl (Y_move rfl ?_)
   refine O_yes 39 rfl rfl (S_call (H1 := []) hs rfl Tryz.func21 rfl (by kernel_rfl) (match_ok hU42 hw15 (by rw [nodesT_len]; (try simp only [sizeT]); omega) (by first | omega | (simp only [List.length_take, List.length_drop]; omega))) fun v23 G' H' _ hR hG44 hs => ?_)
   obtain ⟨rfl, rfl⟩ := hR
   replace hs : St _ _ [] _ := hs
   replace ha := ha.mono hG44
   replace hb := hb.mono hG44
   replace hw := hw.mono hG44
   replace hT := hT.mono hG44
   replace hw15 := hw15.mono hG44
   replace hx17 := hx17.mono hG44
   replace hx19 := hx19.mono hG44
   replace hU30 := hU30.mono hG44
   replace hU42 := hU42.mono hG44
   refine O_yy 39 hs rfl rfl (Y_move rfl ?_)
   refine O_yy 39 hs rfl rfl (Y_move rfl ?_)
   refine O_yy 46 hs rfl rfl (Y_move rfl ?_)
   refine O_yy 39 hs rfl rfl (Y_pickT rfl rfl ?_)
   refine O_yy 39 hs rfl rfl (Y_boolEq1 Tryz.underlying4 rfl rfl (by rw [match_and hok17 hok19 (by omega) (by omega), h22, h25]; rfl) ?_)
   refine O_y hs (Y_pickT rfl rfl ?_)
   refine O_m rfl ?_
   refine O_yy 51 hs rfl rfl (Y_build Tryz.zeroValue42 rfl PL42 rfl (cs := [_, _, _, _, _, _, _, _, _]) rfl ?_)
   refine O_yy 51 hs rfl rfl (Y_move rfl ?_)
   refine O_yes 51 rfl rfl (S_call (H1 := []) hs rfl Tryz.func22 rfl (by kernel_rfl) (run_ok (n := ⟨7, noC, 0, 0, 0, 0⟩) hx17 noC_ok (by rw [nodesT_len]; omega)) fun v24 G' H' _ hR hG54 hs => ?_)
   obtain ⟨rfl, hU54⟩ := hR
   replace hs : St _ _ [] _ := hs
   replace ha := ha.mono hG54
   replace hb := hb.mono hG54
   replace hw := hw.mono hG54
   replace hT := hT.mono hG54
   replace hw15 := hw15.mono hG54
   replace hx17 := hx17.mono hG54
   replace hx19 := hx19.mono hG54
   replace hU30 := hU30.mono hG54
   replace hU42 := hU42.mono hG54
   rw [unF_not] at hU54
   refine O_yy 51 hs rfl rfl (Y_move rfl ?_)
   refine O_yes 51 rfl rfl (S_call (H1 := []) hs rfl Tryz.func21 rfl (by kernel_rfl) (match_ok hU54 hw15 (by rw [nodesT_len]; (try simp only [sizeT]); omega) (by first | omega | (simp only [List.length_take, List.length_drop]; omega))) fun v25 G' H' _ hR hG56 hs => ?_)
   obtain ⟨rfl, rfl⟩ := hR
   replace hs : St _ _ [] _ := hs
   replace ha := ha.mono hG56
   replace hb := hb.mono hG56
   replace hw := hw.mono hG56
   replace hT := hT.mono hG56
   replace hw15 := hw15.mono hG56
   replace hx17 := hx17.mono hG56
   replace hx19 := hx19.mono hG56
   replace hU30 := hU30.mono hG56
   replace hU42 := hU42.mono hG56
   replace hU54 := hU54.mono hG56
   refine O_yy 51 hs rfl rfl (Y_move rfl ?_)
   refine O_yy 51 hs rfl rfl (Y_not rfl ?_)
   refine O_yy 51 hs rfl rfl (Y_boolEq1 Tryz.underlying4 rfl rfl (by rw [match_not hok17 (by omega), h22]; try rfl) ?_)
   refine O_y hs (Y_pickT rfl rfl ?_)
   refine O_a rfl ?_
   refine O_nil (T_kp [6] rfl ?_)
   refine T_ret ?_
   refine Rt_fin (vs := [_]) Tryz.results6 rfl ⟨rfl, trivial⟩ ?_
   try dsimp only [tup]
   exact ⟨_, [], hs.done, rfl, rfl⟩
  ·
   refine O_a rfl ?_
   refine O_nil (T_kp [7, 8, 9, 10, 11, 12] rfl ?_)
   refine T_seq (T_region rfl ?_)
   refine O_m rfl ?_
   refine O_m rfl ?_
   refine O_yy 27 hs rfl rfl (Y_move rfl ?_)
   refine O_yy 27 hs rfl rfl (Y_move rfl ?_)
   refine O_yes 27 rfl rfl (S_call (H1 := []) hs rfl Tryz.func20 rfl (by kernel_rfl) (rbin_ok (kk := 5) hx17 hx19 (by rw [nodesT_len]; omega) (by rw [nodesT_len]; (try simp only [sizeT]); omega) (IsTree.rng ⟨_, hok19, hsh19, rfl⟩ (by rw [nodesT_len]; (try simp only [sizeT]); omega))) fun v26 G' H' _ hR hG30 hs => ?_)
   obtain ⟨rfl, hU30⟩ := hR
   replace hs : St _ _ [] _ := hs
   replace ha := ha.mono hG30
   replace hb := hb.mono hG30
   replace hw := hw.mono hG30
   replace hT := hT.mono hG30
   replace hw15 := hw15.mono hG30
   replace hx17 := hx17.mono hG30
   replace hx19 := hx19.mono hG30
   rw [binF_nodes (.inr (.inl rfl))] at hU30
   change Rx _ _ (nodesT 0 (.alt t17 t19)) at hU30
   refine O_yy 27 hs rfl rfl (Y_move rfl ?_)
   refine O_yes 27 rfl rfl (S_call (H1 := []) hs rfl Tryz.func21 rfl (by kernel_rfl) (match_ok hU30 hw15 (by rw [nodesT_len]; (try simp only [sizeT]); omega) (by first | omega | (simp only [List.length_take, List.length_drop]; omega))) fun v27 G' H' _ hR hG32 hs => ?_)
   obtain ⟨rfl, rfl⟩ := hR
   replace hs : St _ _ [] _ := hs
   replace ha := ha.mono hG32
   replace hb := hb.mono hG32
   replace hw := hw.mono hG32
   replace hT := hT.mono hG32
   replace hw15 := hw15.mono hG32
   replace hx17 := hx17.mono hG32
   replace hx19 := hx19.mono hG32
   replace hU30 := hU30.mono hG32
   refine O_yy 27 hs rfl rfl (Y_move rfl ?_)
   refine O_yy 27 hs rfl rfl (Y_move rfl ?_)
   refine O_no 34 rfl rfl ?_
   refine O_yy 27 hs rfl rfl (Y_pickT rfl rfl ?_)
   refine O_yy 27 hs rfl rfl (Y_boolEq1 Tryz.underlying4 rfl rfl (by rw [match_alt hok17 hok19 (by omega) (by omega), h22, h25]; rfl) ?_)
   refine O_y hs (Y_pickT rfl rfl ?_)
   refine O_m rfl ?_
   refine O_yy 39 hs rfl rfl (Y_move rfl ?_)
   refine O_yy 39 hs rfl rfl (Y_move rfl ?_)
   refine O_yes 39 rfl rfl (S_call (H1 := []) hs rfl Tryz.func20 rfl (by kernel_rfl) (rbin_ok (kk := 6) hx17 hx19 (by rw [nodesT_len]; omega) (by rw [nodesT_len]; (try simp only [sizeT]); omega) (IsTree.rng ⟨_, hok19, hsh19, rfl⟩ (by rw [nodesT_len]; (try simp only [sizeT]); omega))) fun v28 G' H' _ hR hG42 hs => ?_)
   obtain ⟨rfl, hU42⟩ := hR
   replace hs : St _ _ [] _ := hs
   replace ha := ha.mono hG42
   replace hb := hb.mono hG42
   replace hw := hw.mono hG42
   replace hT := hT.mono hG42
   replace hw15 := hw15.mono hG42
   replace hx17 := hx17.mono hG42
   replace hx19 := hx19.mono hG42
   replace hU30 := hU30.mono hG42
   rw [binF_nodes (.inr (.inr rfl))] at hU42
   change Rx _ _ (nodesT 0 (.and t17 t19)) at hU42
   refine O_yy 39 hs rfl rfl (Y_move rfl ?_)
   refine O_yes 39 rfl rfl (S_call (H1 := []) hs rfl Tryz.func21 rfl (by kernel_rfl) (match_ok hU42 hw15 (by rw [nodesT_len]; (try simp only [sizeT]); omega) (by first | omega | (simp only [List.length_take, List.length_drop]; omega))) fun v29 G' H' _ hR hG44 hs => ?_)
   obtain ⟨rfl, rfl⟩ := hR
   replace hs : St _ _ [] _ := hs
   replace ha := ha.mono hG44
   replace hb := hb.mono hG44
   replace hw := hw.mono hG44
   replace hT := hT.mono hG44
   replace hw15 := hw15.mono hG44
   replace hx17 := hx17.mono hG44
   replace hx19 := hx19.mono hG44
   replace hU30 := hU30.mono hG44
   replace hU42 := hU42.mono hG44
   refine O_yy 39 hs rfl rfl (Y_move rfl ?_)
   refine O_yy 39 hs rfl rfl (Y_move rfl ?_)
   refine O_yy 46 hs rfl rfl (Y_move rfl ?_)
   refine O_yy 39 hs rfl rfl (Y_pickT rfl rfl ?_)
   refine O_yy 39 hs rfl rfl (Y_boolEq1 Tryz.underlying4 rfl rfl (by rw [match_and hok17 hok19 (by omega) (by omega), h22, h25]; rfl) ?_)
   refine O_y hs (Y_pickT rfl rfl ?_)
   refine O_m rfl ?_
   refine O_yy 51 hs rfl rfl (Y_build Tryz.zeroValue42 rfl PL42 rfl (cs := [_, _, _, _, _, _, _, _, _]) rfl ?_)
   refine O_yy 51 hs rfl rfl (Y_move rfl ?_)
   refine O_yes 51 rfl rfl (S_call (H1 := []) hs rfl Tryz.func22 rfl (by kernel_rfl) (run_ok (n := ⟨7, noC, 0, 0, 0, 0⟩) hx17 noC_ok (by rw [nodesT_len]; omega)) fun v30 G' H' _ hR hG54 hs => ?_)
   obtain ⟨rfl, hU54⟩ := hR
   replace hs : St _ _ [] _ := hs
   replace ha := ha.mono hG54
   replace hb := hb.mono hG54
   replace hw := hw.mono hG54
   replace hT := hT.mono hG54
   replace hw15 := hw15.mono hG54
   replace hx17 := hx17.mono hG54
   replace hx19 := hx19.mono hG54
   replace hU30 := hU30.mono hG54
   replace hU42 := hU42.mono hG54
   rw [unF_not] at hU54
   refine O_yy 51 hs rfl rfl (Y_move rfl ?_)
   refine O_yes 51 rfl rfl (S_call (H1 := []) hs rfl Tryz.func21 rfl (by kernel_rfl) (match_ok hU54 hw15 (by rw [nodesT_len]; (try simp only [sizeT]); omega) (by first | omega | (simp only [List.length_take, List.length_drop]; omega))) fun v31 G' H' _ hR hG56 hs => ?_)
   obtain ⟨rfl, rfl⟩ := hR
   replace hs : St _ _ [] _ := hs
   replace ha := ha.mono hG56
   replace hb := hb.mono hG56
   replace hw := hw.mono hG56
   replace hT := hT.mono hG56
   replace hw15 := hw15.mono hG56
   replace hx17 := hx17.mono hG56
   replace hx19 := hx19.mono hG56
   replace hU30 := hU30.mono hG56
   replace hU42 := hU42.mono hG56
   replace hU54 := hU54.mono hG56
   refine O_yy 51 hs rfl rfl (Y_move rfl ?_)
   refine O_yy 51 hs rfl rfl (Y_not rfl ?_)
   refine O_yy 51 hs rfl rfl (Y_boolEq1 Tryz.underlying4 rfl rfl (by rw [match_not hok17 (by omega), h22]; try rfl) ?_)
   refine O_y hs (Y_pickT rfl rfl ?_)
   refine O_a rfl ?_
   refine O_nil (T_kp [6] rfl ?_)
   refine T_ret ?_
   refine Rt_fin (vs := [_]) Tryz.results6 rfl ⟨rfl, trivial⟩ ?_
   try dsimp only [tup]
   exact ⟨_, [], hs.done, rfl, rfl⟩

end Go.Proofs.YtkmgbcjfidpmgaaGreatDoor
