import Derived.Test.YtkmgbcjfidpmgaaGreatDoorExWalks9
import Derived.Test.YtkmgbcjfidpmgaaGreatDoorProg
import Derived.Test.YtkmgbcjfidpmgaaGreatDoorSame
import Derived.Test.YtkmgbcjfidpmgaaGreatDoorExThin
import Derived.Test.YtkmgbcjfidpmgaaGreatDoorShelf
namespace Go.Proofs.YtkmgbcjfidpmgaaGreatDoor
open Go Go.Ex Go.RowKit


theorem Y_boolEq1 {x : Cx} {W : World → Prop} {E : Env} {K : Value → Prop} {d : Option Tmp} {ty : TypeId} {pos : String} {aft : Array Edge} {g : Option (Nat × Bool)} {o p : Operand} {xt yt : TypeId} {a b : Bool} (hu : x.P.underlying xt = some .bool) (h1 : ev E o = some (.bool a)) (h2 : ev E p = some (.bool b)) (hab : a = b) (k : K (.bool true)) : Y x W ⟨d, .binOp .eql xt o p yt, ty, pos, aft, g⟩ E K :=
  Y_boolEqS hu h1 h2 (fun _ => k) (fun h => absurd hab h)
theorem null_ok' {G : Ghost} {v : Value} {l : List NodeV} {x : Bool} (hx : Rx G v l) (hl : l.length ≤ 1000000000) (h : matchF l [] = x) : FnOk Tryz.prog 26 [v] G [] fun r _ H' => H' = [] ∧ r = .bool x := by have := null_ok hx hl; rw [h] at this; exact this


theorem rep_ok2 {k : Nat} {mx : Int} {a : Rg} (hx : (k ≤ 15 ∧ mx = -1) ∨ (k ≤ 15 ∧ mx ≤ 16 ∧ (k : Int) ≤ mx)) (ha : TreeOk a) : TreeOk (.rep (k : Int) mx a) := by
  refine ⟨by omega, by omega, by omega, ?_, ha⟩
  rcases hx with h | h
  · exact .inl h.2
  · exact .inr h.2.2


set_option maxHeartbeats 4000000 in
set_option maxRecDepth 10000 in
theorem lawEmpty {G : Ghost} {vx va : Value} {x : List NodeV} {a : List UInt8} (hx : Rx G vx x) (hlx : x.length ≤ 1048576) (ha : Bytes G va a) (hla : a.length ≤ 1048576) (hT : Tab G) :
  FnOk Tryz.prog 10 [vx, va] G [] fun r _ H' => H' = [] ∧ r = .bool true := by
 obtain ⟨Ax, cx, rfl⟩ := LstR.slice hx
 obtain ⟨Aa, ca, rfl, _⟩ := id ha
 refine FnOk.of_T [(0, _), (1, _)] Tryz.func10 rfl Tryz.ntmps10 (by simp) rfl fun w0 hs => ?_
 have hx0 := hx
 have ha0 := ha
 have hT0 := hT
 refine T_seq (T_region rfl ?_)
 refine O_a rfl ?_
 refine O_nil (T_kp [0, 1] rfl ?_)
 refine T_seq (T_region rfl ?_)
 refine O_s (S_call (H1 := []) hs rfl Tryz.func12 rfl (by kernel_rfl) (sanity_ok hT) fun v1 G' H' _ hR hG7 hs => ?_)
 obtain ⟨rfl, rfl⟩ := hR
 replace hs : St _ _ [] _ := hs
 replace hx := hx.mono hG7
 replace ha := ha.mono hG7
 replace hT := hT.mono hG7
 refine O_a rfl ?_
 refine O_nil (T_kp [0, 1, 5] rfl ?_)
 refine T_seq (T_region rfl ?_)
 refine O_m rfl ?_
 refine O_s (S_call (H1 := []) hs rfl Tryz.func16 rfl (by kernel_rfl) (made_ok (most := 60) (by decide) 1048576 _ _ a (by omega) (Nat.le_refl _) ha) fun v2 G' H' _ hR hG9 hs => ?_)
 obtain ⟨rfl, _, hx9, ⟨t9, hok9, hsh9, rfl⟩, hlx9⟩ := hR
 replace hs : St _ _ [] _ := hs
 replace hx := hx.mono hG9
 replace ha := ha.mono hG9
 replace hT := hT.mono hG9
 rw [nodesT_len] at hlx9
 obtain ⟨Ax9, cx9, rfl⟩ := LstR.slice hx9
 refine O_a rfl ?_
 refine O_nil (T_kp [0, 5, 6] rfl ?_)
 refine T_seq (T_region rfl ?_)
 refine O_m rfl ?_
 refine O_m rfl ?_
 refine O_yy 11 hs rfl rfl (Y_move rfl ?_)
 refine O_yes 11 rfl rfl (S_call (H1 := []) hs rfl Tryz.func26 rfl (by kernel_rfl) (null_ok hx (by omega)) fun v3 G' H' _ hR hG13 hs => ?_)
 obtain ⟨rfl, rfl⟩ := hR
 replace hs : St _ _ [] _ := hs
 replace hx := hx.mono hG13
 replace ha := ha.mono hG13
 replace hT := hT.mono hG13
 replace hx9 := hx9.mono hG13
 refine O_yy 11 hs rfl rfl (Y_move rfl ?_)
 refine O_yes 11 rfl rfl (S_call (H1 := []) hs rfl Tryz.func21 rfl (by kernel_rfl) (match_ok hx (show Bytes _ _ [] from Sl.nil _ 1) (by omega) (by decide)) fun v4 G' H' _ hR hG15 hs => ?_)
 obtain ⟨rfl, rfl⟩ := hR
 replace hs : St _ _ [] _ := hs
 replace hx := hx.mono hG15
 replace ha := ha.mono hG15
 replace hT := hT.mono hG15
 replace hx9 := hx9.mono hG15
 refine O_yy 11 hs rfl rfl (Y_boolEq1 Tryz.underlying4 rfl rfl (rfl) ?_)
 refine O_y hs (Y_pickT rfl rfl ?_)
 refine O_m rfl ?_
 refine O_yy 18 hs rfl rfl (Y_move rfl ?_)
 refine O_yes 18 rfl rfl (S_call (H1 := []) hs rfl Tryz.func26 rfl (by kernel_rfl) (null_ok hx9 (by rw [nodesT_len]; omega)) fun v5 G' H' _ hR hG20 hs => ?_)
 obtain ⟨rfl, rfl⟩ := hR
 replace hs : St _ _ [] _ := hs
 replace hx := hx.mono hG20
 replace ha := ha.mono hG20
 replace hT := hT.mono hG20
 replace hx9 := hx9.mono hG20
 refine O_yy 18 hs rfl rfl (Y_move rfl ?_)
 refine O_yes 18 rfl rfl (S_lit hs Tryz.underlying30 Tryz.sizeOf5 Tryz.zeroValue5 rfl rfl (by decide) (by decide) rfl (cs := []) rfl rfl fun v6 _ hs _ => ?_)
 obtain ⟨_, hG22, hl22, hs⟩ := hs.fixRow noM
 replace hx := hx.mono hG22
 replace ha := ha.mono hG22
 replace hT := hT.mono hG22
 replace hx9 := hx9.mono hG22
 refine O_yes 18 rfl rfl (S_call (H1 := []) hs rfl Tryz.func21 rfl (by kernel_rfl) (match_ok hx9 (show Bytes _ _ [] from hl22) (by rw [nodesT_len]; omega) (by decide)) fun v7 G' H' _ hR hG23 hs => ?_)
 obtain ⟨rfl, rfl⟩ := hR
 replace hs : St _ _ [] _ := hs
 replace hx := hx.mono hG23
 replace ha := ha.mono hG23
 replace hT := hT.mono hG23
 replace hx9 := hx9.mono hG23
 replace hl22 := hl22.mono hG23
 refine O_yy 18 hs rfl rfl (Y_boolEq1 Tryz.underlying4 rfl rfl (rfl) ?_)
 refine O_y hs (Y_pickT rfl rfl ?_)
 refine O_a rfl ?_
 refine O_nil (T_kp [4] rfl ?_)
 refine T_ret ?_
 refine Rt_fin (vs := [_]) Tryz.results10 rfl ⟨rfl, trivial⟩ ?_
 try dsimp only [tup]
 exact ⟨_, [], hs.done, rfl, rfl⟩

end Go.Proofs.YtkmgbcjfidpmgaaGreatDoor
