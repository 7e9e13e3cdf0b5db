import Derived.Test.YtkmgbcjfidpmgaaGreatDoorExWalks9
import Derived.Test.YtkmgbcjfidpmgaaGreatDoorRound
import Derived.Test.YtkmgbcjfidpmgaaGreatDoorProg
import Derived.Test.YtkmgbcjfidpmgaaGreatDoorSame
import Derived.Test.YtkmgbcjfidpmgaaGreatDoorExThin
import Derived.Test.YtkmgbcjfidpmgaaGreatDoorShelf
namespace Go.Proofs.YtkmgbcjfidpmgaaGreatDoor
open Go Go.Ex Go.RowKit


theorem Y_boolEq1 {x : Cx} {W : World → Prop} {E : Env} {K : Value → Prop} {d : Option Tmp} {ty : TypeId} {pos : String} {aft : Array Edge} {g : Option (Nat × Bool)} {o p : Operand} {xt yt : TypeId} {a b : Bool} (hu : x.P.underlying xt = some .bool) (h1 : ev E o = some (.bool a)) (h2 : ev E p = some (.bool b)) (hab : a = b) (k : K (.bool true)) : Y x W ⟨d, .binOp .eql xt o p yt, ty, pos, aft, g⟩ E K :=
  Y_boolEqS hu h1 h2 (fun _ => k) (fun h => absurd hab h)
theorem null_ok' {G : Ghost} {v : Value} {l : List NodeV} {x : Bool} (hx : Rx G v l) (hl : l.length ≤ 1000000000) (h : matchF l [] = x) : FnOk Tryz.prog 26 [v] G [] fun r _ H' => H' = [] ∧ r = .bool x := by have := null_ok hx hl; rw [h] at this; exact this


set_option maxHeartbeats 4000000 in
set_option maxRecDepth 10000 in
theorem lawRound {G : Ghost} {va : Value} {a s : List UInt8} (ha : Bytes G va a) (hla : a.length ≤ 1048576) (hl : s.length ≤ 1048576) (hT : Tab G) :
  FnOk Tryz.prog 4 [va, .string ⟨s.toArray⟩] G [] fun r _ H' => H' = [] ∧ r = .bool true := by
 obtain ⟨f, r0, hr⟩ := parse_some s
 obtain ⟨Aa, ca, rfl, _⟩ := id ha
 have hrl := resN_len hr
 refine FnOk.of_T [(0, _), (1, _)] Tryz.func4 rfl Tryz.ntmps4 (by simp) rfl fun w0 hs => ?_
 have ha0 := ha
 have hT0 := hT
 refine T_seq (T_region rfl ?_)
 refine O_a rfl ?_
 refine O_nil (T_kp [0, 1] rfl ?_)
 refine T_seq (T_region rfl ?_)
 refine O_s (S_call (H1 := []) hs rfl Tryz.func12 rfl (by kernel_rfl) (sanity_ok hT) fun v1 G' H' _ hR hG14 hs => ?_)
 obtain ⟨rfl, rfl⟩ := hR
 replace hs : St _ _ [] _ := hs
 replace ha := ha.mono hG14
 replace hT := hT.mono hG14
 refine O_a rfl ?_
 refine O_nil (T_kp [0, 1, 5] rfl ?_)
 refine T_seq (T_region rfl ?_)
 refine O_m rfl ?_
 refine O_s (S_call (H1 := []) hs rfl Tryz.func16 rfl (by kernel_rfl) (made_ok (most := 40) (by decide) 1048576 _ _ a (by omega) (Nat.le_refl _) ha) fun v2 G' H' _ hR hG16 hs => ?_)
 obtain ⟨rfl, _, hx16, ⟨t16, hok16, hsh16, rfl⟩, hlx16⟩ := hR
 replace hs : St _ _ [] _ := hs
 replace ha := ha.mono hG16
 replace hT := hT.mono hG16
 rw [nodesT_len] at hlx16
 obtain ⟨Ax16, cx16, rfl⟩ := LstR.slice hx16
 refine O_a rfl ?_
 refine O_nil (T_kp [1, 5, 6] rfl ?_)
 refine T_seq (T_region rfl ?_)
 refine O_m rfl ?_
 refine O_s (S_call (H1 := []) hs rfl Tryz.func17 rfl (by kernel_rfl) (fmt_ok' hx16 (by rw [nodesT_len]; omega) hT (format_short hok16 hsh16 (by omega))) fun v3 G' H' _ hR hG19 hs => ?_)
 obtain ⟨rfl, rfl⟩ := hR
 replace hs : St _ _ [] _ := hs
 replace ha := ha.mono hG19
 replace hT := hT.mono hG19
 replace hx16 := hx16.mono hG19
 refine O_m rfl ?_
 refine O_y hs (Y_extract rfl rfl ?_)
 refine O_y hs (Y_extract rfl rfl ?_)
 refine O_a rfl ?_
 refine O_a rfl ?_
 refine O_nil (T_kp [1, 5, 6, 7, 8] rfl ?_)
 refine T_seq (T_region rfl ?_)
 refine O_m rfl ?_
 refine O_s (S_call (H1 := []) hs rfl Tryz.func13 rfl (by kernel_rfl) (parse_ok (f := f) (by omega) hr) fun v4 G' H' _ hR hG24 hs => ?_)
 obtain ⟨rfl, u, hU, rfl⟩ := hR
 replace hs : St _ _ [] _ := hs
 replace ha := ha.mono hG24
 replace hT := hT.mono hG24
 replace hx16 := hx16.mono hG24
 obtain ⟨Au, cu, rfl⟩ := LstR.slice hU
 refine O_m rfl ?_
 refine O_y hs (Y_extract rfl rfl ?_)
 refine O_y hs (Y_extract rfl rfl ?_)
 refine O_y hs (Y_extract rfl rfl ?_)
 refine O_a rfl ?_
 refine O_a rfl ?_
 refine O_a rfl ?_
 refine O_nil (T_kp [5, 6, 7, 8, 9, 11] rfl ?_)
 refine T_seq (T_region rfl ?_)
 refine O_m rfl ?_
 obtain ⟨ut, ue, hfu⟩ : ∃ ut ue, formatF (resN r0) = (ut, ue) := ⟨_, _, rfl⟩
 refine O_s (S_call (H1 := []) hs rfl Tryz.func17 rfl (by kernel_rfl) (fmt_ok' hU (by omega) hT hfu) fun v5 G' H' _ hR hG30 hs => ?_)
 obtain ⟨rfl, rfl⟩ := hR
 replace hs : St _ _ [] _ := hs
 replace ha := ha.mono hG30
 replace hT := hT.mono hG30
 replace hx16 := hx16.mono hG30
 replace hU := hU.mono hG30
 refine O_m rfl ?_
 refine O_y hs (Y_extract rfl rfl ?_)
 refine O_y hs (Y_extract rfl rfl ?_)
 refine O_a rfl ?_
 refine O_a rfl ?_
 refine O_nil (T_kp [5, 6, 7, 8, 9, 11, 12, 13] rfl ?_)
 refine T_seq (T_seq (T_region rfl ?_))
 refine O_m rfl ?_
 refine O_y hs (Y_cmpS rfl rfl rfl (fun h34 => ?_) (fun h34 => ?_))
 ·
  dsimp only [cmpP] at h34
  refine O_nil (T_kp [5, 6, 7, 8, 9, 12, 13, 34] rfl ?_)
  refine T_condT rfl (T_seq (T_region rfl ?_))
  refine O_m rfl ?_
  refine O_m rfl ?_
  refine O_yy 36 hs rfl rfl (Y_move rfl ?_)
  refine O_yy 36 hs rfl rfl (Y_cmpT rfl rfl rfl (rfl) ?_)
  refine O_y hs (Y_pickT rfl rfl ?_)
  refine O_m rfl ?_
  refine O_yy 40 hs rfl rfl (Y_move rfl ?_)
  refine O_yy 40 hs rfl rfl (Y_move rfl ?_)
  obtain ⟨f1, hp1⟩ := parse_short hok16 hsh16 (by omega)
  refine O_yes 40 rfl rfl (S_call (H1 := []) hs rfl Tryz.func18 rfl (by kernel_rfl) (parsed_ok' (f := f1) (s := txt t16) hx16 (by have := txt_short t16 hsh16; omega) (by rw [nodesT_len]; omega) hp1) fun v6 G' H' _ hR hG43 hs => ?_)
  obtain ⟨rfl, rfl⟩ := hR
  replace hs : St _ _ [] _ := hs
  replace ha := ha.mono hG43
  replace hT := hT.mono hG43
  replace hx16 := hx16.mono hG43
  replace hU := hU.mono hG43
  refine O_y hs (Y_pickT rfl rfl ?_)
  refine O_m rfl ?_
  refine O_yy 45 hs rfl rfl (Y_move rfl ?_)
  refine O_yy 45 hs rfl rfl (Y_len Tryz.underlying24 rfl ?_)
  refine O_yy 45 hs rfl rfl (Y_cmpT rfl rfl rfl (by have := resN_err h34; omega) ?_)
  refine O_y hs (Y_pickT rfl rfl ?_)
  refine O_a rfl ?_
  refine O_nil (T_kp [4] rfl ?_)
  refine T_ret ?_
  refine Rt_fin (vs := [_]) Tryz.results4 rfl ⟨rfl, trivial⟩ ?_
  try dsimp only [tup]
  exact ⟨_, [], hs.done, rfl, rfl⟩
 ·
  dsimp only [cmpP] at h34
  obtain ⟨T, hTo, hTs, hr0⟩ := res_ok hr (by omega)
  subst hr0
  have hfu2 := fmt_cases hTo hTs hfu
  refine O_nil (T_kp [5, 6, 7, 8, 9, 12, 13, 34] rfl ?_)
  refine T_condF rfl (T_skip ?_)
  refine T_seq (T_region rfl ?_)
  refine O_m rfl ?_
  refine O_m rfl ?_
  refine O_yy 51 hs rfl rfl (Y_move rfl ?_)
  refine O_yy 51 hs rfl rfl (Y_cmpT rfl rfl rfl (rfl) ?_)
  refine O_y hs (Y_pickT rfl rfl ?_)
  refine O_m rfl ?_
  refine O_yy 55 hs rfl rfl (Y_move rfl ?_)
  refine O_yy 55 hs rfl rfl (Y_move rfl ?_)
  obtain ⟨f1, hp1⟩ := parse_short hok16 hsh16 (by omega)
  refine O_yes 55 rfl rfl (S_call (H1 := []) hs rfl Tryz.func18 rfl (by kernel_rfl) (parsed_ok' (f := f1) (s := txt t16) hx16 (by have := txt_short t16 hsh16; omega) (by rw [nodesT_len]; omega) hp1) fun v7 G' H' _ hR hG58 hs => ?_)
  obtain ⟨rfl, rfl⟩ := hR
  replace hs : St _ _ [] _ := hs
  replace ha := ha.mono hG58
  replace hT := hT.mono hG58
  replace hx16 := hx16.mono hG58
  replace hU := hU.mono hG58
  refine O_y hs (Y_pickT rfl rfl ?_)
  refine O_m rfl ?_
  refine O_yy 60 hs rfl rfl (Y_move rfl ?_)
  refine O_yy 60 hs rfl rfl (Y_cmpS rfl rfl rfl (fun h62 => ?_) (fun h62 => ?_))
  ·
   dsimp only [cmpP] at h62
   refine O_yy 60 hs rfl rfl (Y_move rfl ?_)
   refine O_no 63 rfl rfl ?_
   refine O_no 63 rfl rfl ?_
   refine O_no 63 rfl rfl ?_
   refine O_noU 66 rfl rfl ?_
   refine O_noU 66 rfl rfl ?_
   refine O_noU 66 rfl rfl ?_
   refine O_no 63 rfl rfl ?_
   refine O_yy 60 hs rfl rfl (Y_pickT rfl rfl ?_)
   refine O_y hs (Y_pickT rfl rfl ?_)
   refine O_a rfl ?_
   refine O_nil (T_kp [4] rfl ?_)
   refine T_ret ?_
   refine Rt_fin (vs := [_]) Tryz.results4 rfl ⟨rfl, trivial⟩ ?_
   try dsimp only [tup]
   exact ⟨_, [], hs.done, rfl, rfl⟩
  ·
   dsimp only [cmpP] at h62
   refine O_yy 60 hs rfl rfl (Y_move rfl ?_)
   refine O_yy 63 hs rfl rfl (Y_move rfl ?_)
   refine O_yy 63 hs rfl rfl (Y_cmpT rfl rfl rfl (by omega) ?_)
   refine O_yy 63 hs rfl rfl (Y_move rfl ?_)
   refine O_yy 66 hs rfl rfl (Y_move rfl ?_)
   refine O_yy 66 hs rfl rfl (Y_move rfl ?_)
   obtain ⟨_, rfl, h4⟩ := hfu2.resolve_left h62
   obtain ⟨f2, hp2⟩ := parse_txt hTo h4 hTs
   refine O_yes 66 rfl rfl (S_call (H1 := []) hs rfl Tryz.func18 rfl (by kernel_rfl) (parsed_ok' (f := f2) (s := txt T) (show Rx _ _ (nodesT 0 T) from hU) (by omega) (by rw [nodesT_len]; omega) hp2) fun v8 G' H' _ hR hG69 hs => ?_)
   obtain ⟨rfl, rfl⟩ := hR
   replace hs : St _ _ [] _ := hs
   replace ha := ha.mono hG69
   replace hT := hT.mono hG69
   replace hx16 := hx16.mono hG69
   replace hU := hU.mono hG69
   refine O_yy 63 hs rfl rfl (Y_pickT rfl rfl ?_)
   refine O_yy 60 hs rfl rfl (Y_pickF rfl rfl ?_)
   refine O_y hs (Y_pickT rfl rfl ?_)
   refine O_a rfl ?_
   refine O_nil (T_kp [4] rfl ?_)
   refine T_ret ?_
   refine Rt_fin (vs := [_]) Tryz.results4 rfl ⟨rfl, trivial⟩ ?_
   try dsimp only [tup]
   exact ⟨_, [], hs.done, rfl, rfl⟩

end Go.Proofs.YtkmgbcjfidpmgaaGreatDoor
