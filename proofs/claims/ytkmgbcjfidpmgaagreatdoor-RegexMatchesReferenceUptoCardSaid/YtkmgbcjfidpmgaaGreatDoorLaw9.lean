import Derived.Test.YtkmgbcjfidpmgaaGreatDoorExWalks14
import Derived.Test.YtkmgbcjfidpmgaaGreatDoorProg
import Derived.Test.YtkmgbcjfidpmgaaGreatDoorSame
import Derived.Test.YtkmgbcjfidpmgaaGreatDoorExThin
import Derived.Test.YtkmgbcjfidpmgaaGreatDoorShelf
namespace Go.Proofs.YtkmgbcjfidpmgaaGreatDoor
open Go Go.Ex Go.RowKit


theorem Y_boolEq1 {x : Cx} {W : World → Prop} {E : Env} {K : Value → Prop} {d : Option Tmp} {ty : TypeId} {pos : String} {aft : Array Edge} {g : Option (Nat × Bool)} {o p : Operand} {xt yt : TypeId} {a b : Bool} (hu : x.P.underlying xt = some .bool) (h1 : ev E o = some (.bool a)) (h2 : ev E p = some (.bool b)) (hab : a = b) (k : K (.bool true)) : Y x W ⟨d, .binOp .eql xt o p yt, ty, pos, aft, g⟩ E K :=
  Y_boolEqS hu h1 h2 (fun _ => k) (fun h => absurd hab h)
theorem null_ok' {G : Ghost} {v : Value} {l : List NodeV} {x : Bool} (hx : Rx G v l) (hl : l.length ≤ 1000000000) (h : matchF l [] = x) : FnOk Tryz.prog 26 [v] G [] fun r _ H' => H' = [] ∧ r = .bool x := by have := null_ok hx hl; rw [h] at this; exact this


set_option maxHeartbeats 4000000 in
set_option maxRecDepth 10000 in
theorem lawMatches {G : Ghost} {vx va : Value} {x : List NodeV} {a : List UInt8} (hx : Rx G vx x) (hlx : x.length ≤ 1048576) (ha : Bytes G va a) (hla : a.length ≤ 1048576) (hT : Tab G) :
  FnOk Tryz.prog 9 [vx, va] G [] fun r _ H' => H' = [] ∧ r = .bool true := by
 obtain ⟨Ax, cx, rfl⟩ := LstR.slice hx
 obtain ⟨Aa, ca, rfl, _⟩ := id ha
 refine FnOk.of_T [(0, _), (1, _)] Tryz.func9 rfl Tryz.ntmps9 (by simp) rfl fun w0 hs => ?_
 have hx0 := hx
 have ha0 := ha
 have hT0 := hT
 refine T_seq (T_region rfl ?_)
 refine O_a rfl ?_
 refine O_nil (T_kp [0, 1] rfl ?_)
 refine T_seq (T_region rfl ?_)
 refine O_s (S_call (H1 := []) hs rfl Tryz.func12 rfl (by kernel_rfl) (sanity_ok hT) fun v1 G' H' _ hR hG11 hs => ?_)
 obtain ⟨rfl, rfl⟩ := hR
 replace hs : St _ _ [] _ := hs
 replace hx := hx.mono hG11
 replace ha := ha.mono hG11
 replace hT := hT.mono hG11
 refine O_a rfl ?_
 refine O_nil (T_kp [0, 1, 5] rfl ?_)
 refine T_seq (T_region rfl ?_)
 refine O_m rfl ?_
 refine O_s (S_call (H1 := []) hs rfl Tryz.func19 rfl (by kernel_rfl) (small_ok (n := 8) ha) fun v2 G' H' _ hR hG13 hs => ?_)
 obtain ⟨rfl, hw13⟩ := hR
 replace hs : St _ _ [] _ := hs
 replace hx := hx.mono hG13
 replace ha := ha.mono hG13
 replace hT := hT.mono hG13
 obtain ⟨W, hWe⟩ : ∃ W, W = a.take 8 := ⟨_, rfl⟩
 have hWl : W.length ≤ 8 := by rw [hWe, List.length_take]; omega
 rw [← hWe] at hw13
 obtain ⟨Aw13, cw13, rfl, _⟩ := id hw13
 refine O_a rfl ?_
 refine O_nil (T_kp [0, 5, 6] rfl ?_)
 refine T_seq (T_region rfl ?_)
 refine O_m rfl ?_
 refine O_s (S_call (H1 := []) hs rfl Tryz.func17 rfl (by kernel_rfl) (fmt_ok hx (by omega) hT) fun v3 G' H' _ hR hG16 hs => ?_)
 obtain ⟨rfl, rfl⟩ := hR
 replace hs : St _ _ [] _ := hs
 replace hx := hx.mono hG16
 replace ha := ha.mono hG16
 replace hT := hT.mono hG16
 replace hw13 := hw13.mono hG16
 refine O_m rfl ?_
 refine O_y hs (Y_extract rfl rfl ?_)
 refine O_y hs (Y_extract rfl rfl ?_)
 refine O_a rfl ?_
 refine O_a rfl ?_
 refine O_nil (T_kp [0, 5, 6, 7, 8] rfl ?_)
 refine T_seq (T_region rfl ?_)
 refine O_m rfl ?_
 refine O_s (S_call (H1 := []) hs rfl Tryz.func23 rfl (by kernel_rfl) (rform_ok hx (by omega)) fun v4 G' H' _ hR hG21 hs => ?_)
 obtain ⟨rfl, rfl⟩ := hR
 replace hs : St _ _ [] _ := hs
 replace hx := hx.mono hG21
 replace ha := ha.mono hG21
 replace hT := hT.mono hG21
 replace hw13 := hw13.mono hG21
 refine O_m rfl ?_
 refine O_y hs (Y_extract rfl rfl ?_)
 refine O_y hs (Y_extract rfl rfl ?_)
 refine O_a rfl ?_
 refine O_a rfl ?_
 refine O_nil (T_kp [0, 5, 6, 7, 8, 9, 10] rfl ?_)
 refine T_seq (T_region rfl ?_)
 refine O_m rfl ?_
 refine O_m rfl ?_
 refine O_yy 25 hs rfl rfl (Y_move rfl ?_)
 refine O_yes 25 rfl rfl (S_call (H1 := []) hs rfl Tryz.func24 rfl (by kernel_rfl) (valid_ok hx (by omega)) fun v5 G' H' _ hR hG27 hs => ?_)
 obtain ⟨rfl, rfl⟩ := hR
 replace hs : St _ _ [] _ := hs
 replace hx := hx.mono hG27
 replace ha := ha.mono hG27
 replace hT := hT.mono hG27
 replace hw13 := hw13.mono hG27
 refine O_yy 25 hs rfl rfl (Y_move rfl ?_)
 refine O_yes 25 rfl rfl (S_call (H1 := []) hs rfl Tryz.func25 rfl (by kernel_rfl) (rvalid_ok hx (by omega)) fun v6 G' H' _ hR hG29 hs => ?_)
 obtain ⟨rfl, rfl⟩ := hR
 replace hs : St _ _ [] _ := hs
 replace hx := hx.mono hG29
 replace ha := ha.mono hG29
 replace hT := hT.mono hG29
 replace hw13 := hw13.mono hG29
 refine O_yy 25 hs rfl rfl (Y_cmpT rfl rfl rfl (rfl) ?_)
 refine O_y hs (Y_pickT rfl rfl ?_)
 refine O_m rfl ?_
 refine O_yy 32 hs rfl rfl (Y_move rfl ?_)
 refine O_yy 32 hs rfl rfl (Y_move rfl ?_)
 refine O_yy 32 hs rfl rfl (Y_strEq (b := true) rfl rfl ⟨fun _ => rfl, fun _ => rfl⟩ ?_)
 refine O_y hs (Y_pickT rfl rfl ?_)
 refine O_m rfl ?_
 refine O_yy 37 hs rfl rfl (Y_move rfl ?_)
 refine O_yy 37 hs rfl rfl (Y_move rfl ?_)
 refine O_yy 37 hs rfl rfl (Y_cmpT rfl rfl rfl (rfl) ?_)
 refine O_y hs (Y_pickT rfl rfl ?_)
 refine O_m rfl ?_
 refine O_yy 42 hs rfl rfl (Y_move rfl ?_)
 refine O_yes 42 rfl rfl (S_call (H1 := []) hs rfl Tryz.func26 rfl (by kernel_rfl) (null_ok hx (by omega)) fun v7 G' H' _ hR hG44 hs => ?_)
 obtain ⟨rfl, rfl⟩ := hR
 replace hs : St _ _ [] _ := hs
 replace hx := hx.mono hG44
 replace ha := ha.mono hG44
 replace hT := hT.mono hG44
 replace hw13 := hw13.mono hG44
 refine O_yy 42 hs rfl rfl (Y_move rfl ?_)
 refine O_yes 42 rfl rfl (S_call (H1 := []) hs rfl Tryz.func27 rfl (by kernel_rfl) (rnull_ok hx (by omega)) fun v8 G' H' _ hR hG46 hs => ?_)
 obtain ⟨rfl, rfl⟩ := hR
 replace hs : St _ _ [] _ := hs
 replace hx := hx.mono hG46
 replace ha := ha.mono hG46
 replace hT := hT.mono hG46
 replace hw13 := hw13.mono hG46
 refine O_yy 42 hs rfl rfl (Y_boolEq1 Tryz.underlying4 rfl rfl (rfl) ?_)
 refine O_y hs (Y_pickT rfl rfl ?_)
 refine O_m rfl ?_
 refine O_yy 49 hs rfl rfl (Y_move rfl ?_)
 refine O_yy 49 hs rfl rfl (Y_move rfl ?_)
 refine O_yes 49 rfl rfl (S_call (H1 := []) hs rfl Tryz.func21 rfl (by kernel_rfl) (match_ok hx hw13 (by omega) (by omega)) fun v9 G' H' _ hR hG52 hs => ?_)
 obtain ⟨rfl, rfl⟩ := hR
 replace hs : St _ _ [] _ := hs
 replace hx := hx.mono hG52
 replace ha := ha.mono hG52
 replace hT := hT.mono hG52
 replace hw13 := hw13.mono hG52
 refine O_yy 49 hs rfl rfl (Y_move rfl ?_)
 refine O_yy 49 hs rfl rfl (Y_move rfl ?_)
 refine O_yes 49 rfl rfl (S_call (H1 := []) hs rfl Tryz.func28 rfl (by kernel_rfl) (rmatch_ok hx hw13 (by omega) (by omega)) fun v10 G' H' _ hR hG55 hs => ?_)
 obtain ⟨rfl, rfl⟩ := hR
 replace hs : St _ _ [] _ := hs
 replace hx := hx.mono hG55
 replace ha := ha.mono hG55
 replace hT := hT.mono hG55
 replace hw13 := hw13.mono hG55
 refine O_yy 49 hs rfl rfl (Y_boolEq1 Tryz.underlying4 rfl rfl (rfl) ?_)
 refine O_y hs (Y_pickT rfl rfl ?_)
 refine O_a rfl ?_
 refine O_nil (T_kp [4] rfl ?_)
 refine T_ret ?_
 refine Rt_fin (vs := [_]) Tryz.results9 rfl ⟨rfl, trivial⟩ ?_
 try dsimp only [tup]
 exact ⟨_, [], hs.done, rfl, rfl⟩

end Go.Proofs.YtkmgbcjfidpmgaaGreatDoor
