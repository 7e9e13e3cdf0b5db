import Derived.Test.YtkmgbcjfidpmgaaGreatDoorExWalks12
import Derived.Test.YtkmgbcjfidpmgaaGreatDoorProg
import Derived.Test.YtkmgbcjfidpmgaaGreatDoorSame
import Derived.Test.YtkmgbcjfidpmgaaGreatDoorExThin
import Derived.Test.YtkmgbcjfidpmgaaGreatDoorShelf
namespace Go.Proofs.YtkmgbcjfidpmgaaGreatDoor
open Go Go.Ex Go.RowKit


theorem Y_boolEq1 {x : Cx} {W : World → Prop} {E : Env} {K : Value → Prop} {d : Option Tmp} {ty : TypeId} {pos : String} {aft : Array Edge} {g : Option (Nat × Bool)} {o p : Operand} {xt yt : TypeId} {a b : Bool} (hu : x.P.underlying xt = some .bool) (h1 : ev E o = some (.bool a)) (h2 : ev E p = some (.bool b)) (hab : a = b) (k : K (.bool true)) : Y x W ⟨d, .binOp .eql xt o p yt, ty, pos, aft, g⟩ E K :=
  Y_boolEqS hu h1 h2 (fun _ => k) (fun h => absurd hab h)
theorem null_ok' {G : Ghost} {v : Value} {l : List NodeV} {x : Bool} (hx : Rx G v l) (hl : l.length ≤ 1000000000) (h : matchF l [] = x) : FnOk Tryz.prog 26 [v] G [] fun r _ H' => H' = [] ∧ r = .bool x := by have := null_ok hx hl; rw [h] at this; exact this


theorem same_ok' {G : Ghost} {u v : Value} {a b : List NodeV} (ha : Rx G u a) (hb : Rx G v b) (hla : a.length ≤ 1000000) (h : a = b) : FnOk Tryz.prog 15 [u, v] G [] fun r _ H' => H' = [] ∧ r = .bool true := by
  have := same_ok ha hb hla; rw [same_t h] at this; exact this


set_option maxHeartbeats 4000000 in
set_option maxRecDepth 10000 in
theorem lawParse {G : Ghost} {s : List UInt8} (hl : s.length ≤ 1048576) (hT : Tab G) :
  FnOk Tryz.prog 3 [.string ⟨s.toArray⟩] G [] fun r _ H' => H' = [] ∧ r = .bool true := by
 obtain ⟨f, r0, hr⟩ := parse_some s
 have hrl : (resN r0).length ≤ 200 := by cases r0 with | error e => exact Nat.zero_le _ | ok l => exact parse_size hr
 refine FnOk.of_T [(0, _)] Tryz.func3 rfl Tryz.ntmps3 (by simp) rfl fun w0 hs => ?_
 have hT0 := hT
 refine T_seq (T_region rfl ?_)
 refine O_a rfl ?_
 refine O_nil (T_kp [0] rfl ?_)
 refine T_seq (T_region rfl ?_)
 refine O_s (S_call (H1 := []) hs rfl Tryz.func12 rfl (by kernel_rfl) (sanity_ok hT) fun v1 G' H' _ hR hG10 hs => ?_)
 obtain ⟨rfl, rfl⟩ := hR
 replace hs : St _ _ [] _ := hs
 replace hT := hT.mono hG10
 refine O_a rfl ?_
 refine O_nil (T_kp [0, 3] rfl ?_)
 refine T_seq (T_region rfl ?_)
 refine O_m rfl ?_
 refine O_s (S_call (H1 := []) hs rfl Tryz.func13 rfl (by kernel_rfl) (parse_ok (f := f) (by omega) hr) fun v2 G' H' _ hR hG13 hs => ?_)
 obtain ⟨rfl, u, hU, rfl⟩ := hR
 replace hs : St _ _ [] _ := hs
 replace hT := hT.mono hG13
 refine O_m rfl ?_
 refine O_y hs (Y_extract rfl rfl ?_)
 refine O_y hs (Y_extract rfl rfl ?_)
 refine O_y hs (Y_extract rfl rfl ?_)
 refine O_a rfl ?_
 refine O_a rfl ?_
 refine O_a rfl ?_
 refine O_nil (T_kp [0, 3, 4, 5, 6] rfl ?_)
 refine T_seq (T_region rfl ?_)
 refine O_m rfl ?_
 refine O_s (S_call (H1 := []) hs rfl Tryz.func14 rfl (by kernel_rfl) (rparse_ok (f := f) (by omega) hr) fun v3 G' H' _ hR hG19 hs => ?_)
 obtain ⟨rfl, u2, hU2, rfl⟩ := hR
 replace hs : St _ _ [] _ := hs
 replace hT := hT.mono hG19
 replace hU := hU.mono hG19
 refine O_m rfl ?_
 refine O_y hs (Y_extract rfl rfl ?_)
 refine O_y hs (Y_extract rfl rfl ?_)
 refine O_y hs (Y_extract rfl rfl ?_)
 refine O_a rfl ?_
 refine O_a rfl ?_
 refine O_a rfl ?_
 refine O_nil (T_kp [3, 4, 5, 6, 7, 8, 9] rfl ?_)
 refine T_seq (T_region rfl ?_)
 refine O_m rfl ?_
 refine O_m rfl ?_
 refine O_yy 24 hs rfl rfl (Y_move rfl ?_)
 refine O_yy 24 hs rfl rfl (Y_move rfl ?_)
 refine O_yes 24 rfl rfl (S_call (H1 := []) hs rfl Tryz.func15 rfl (by kernel_rfl) (same_ok' hU hU2 (by omega) rfl) fun v4 G' H' _ hR hG27 hs => ?_)
 obtain ⟨rfl, rfl⟩ := hR
 replace hs : St _ _ [] _ := hs
 replace hT := hT.mono hG27
 replace hU := hU.mono hG27
 replace hU2 := hU2.mono hG27
 refine O_y hs (Y_pickT rfl rfl ?_)
 refine O_m rfl ?_
 refine O_yy 29 hs rfl rfl (Y_move rfl ?_)
 refine O_yy 29 hs rfl rfl (Y_move rfl ?_)
 refine O_yy 29 hs rfl rfl (Y_cmpT rfl rfl rfl (rfl) ?_)
 refine O_y hs (Y_pickT rfl rfl ?_)
 refine O_m rfl ?_
 refine O_yy 34 hs rfl rfl (Y_move rfl ?_)
 refine O_yy 34 hs rfl rfl (Y_move rfl ?_)
 refine O_yy 34 hs rfl rfl (Y_cmpT rfl rfl rfl (rfl) ?_)
 refine O_y hs (Y_pickT rfl rfl ?_)
 refine O_a rfl ?_
 refine O_nil (T_kp [2] rfl ?_)
 refine T_ret ?_
 refine Rt_fin (vs := [_]) Tryz.results3 rfl ⟨rfl, trivial⟩ ?_
 try dsimp only [tup]
 exact ⟨_, [], hs.done, rfl, rfl⟩

end Go.Proofs.YtkmgbcjfidpmgaaGreatDoor
