import Derived.Test.YtkmgbcjfidpmgaaGreatDoorExWalks9
import Derived.Test.YtkmgbcjfidpmgaaGreatDoorProg
import Derived.Test.YtkmgbcjfidpmgaaGreatDoorSame
import Derived.Test.YtkmgbcjfidpmgaaGreatDoorExThin
import Derived.Test.YtkmgbcjfidpmgaaGreatDoorShelf
namespace Go.Proofs.YtkmgbcjfidpmgaaGreatDoor
open Go Go.Ex Go.RowKit


theorem Y_boolEq1 {x : Cx} {W : World → Prop} {E : Env} {K : Value → Prop} {d : Option Tmp} {ty : TypeId} {pos : String} {aft : Array Edge} {g : Option (Nat × Bool)} {o p : Operand} {xt yt : TypeId} {a b : Bool} (hu : x.P.underlying xt = some .bool) (h1 : ev E o = some (.bool a)) (h2 : ev E p = some (.bool b)) (hab : a = b) (k : K (.bool true)) : Y x W ⟨d, .binOp .eql xt o p yt, ty, pos, aft, g⟩ E K :=
  Y_boolEqS hu h1 h2 (fun _ => k) (fun h => absurd hab h)
theorem null_ok' {G : Ghost} {v : Value} {l : List NodeV} {x : Bool} (hx : Rx G v l) (hl : l.length ≤ 1000000000) (h : matchF l [] = x) : FnOk Tryz.prog 26 [v] G [] fun r _ H' => H' = [] ∧ r = .bool x := by have := null_ok hx hl; rw [h] at this; exact this


theorem rep_ok2 {k : Nat} {mx : Int} {a : Rg} (hx : (k ≤ 15 ∧ mx = -1) ∨ (k ≤ 15 ∧ mx ≤ 16 ∧ (k : Int) ≤ mx)) (ha : TreeOk a) : TreeOk (.rep (k : Int) mx a) := by
  refine ⟨by omega, by omega, by omega, ?_, ha⟩
  rcases hx with h | h
  · exact .inl h.2
  · exact .inr h.2.2


set_option maxHeartbeats 4000000 in
set_option maxRecDepth 10000 in
theorem lawCat {G : Ghost} {va vb vw : Value} {a b w : List UInt8} (ha : Bytes G va a) (hla : a.length ≤ 1048576) (hb : Bytes G vb b) (hlb : b.length ≤ 1048576) (hw : Bytes G vw w) (hlw : w.length ≤ 1048576) (hT : Tab G) :
  FnOk Tryz.prog 7 [va, vb, vw] G [] fun r _ H' => H' = [] ∧ r = .bool true := by
 obtain ⟨Aa, ca, rfl, _⟩ := id ha
 obtain ⟨Ab, cb, rfl, _⟩ := id hb
 obtain ⟨Aw, cw, rfl, _⟩ := id hw
 refine FnOk.of_T [(0, _), (1, _), (2, _)] Tryz.func7 rfl Tryz.ntmps7 (by simp) rfl fun w0 hs => ?_
 have ha0 := ha
 have hb0 := hb
 have hw0 := hw
 have hT0 := hT
 refine T_seq (T_region rfl ?_)
 refine O_a rfl ?_
 refine O_nil (T_kp [0, 1, 2] rfl ?_)
 refine T_seq (T_region rfl ?_)
 refine O_s (S_call (H1 := []) hs rfl Tryz.func12 rfl (by kernel_rfl) (sanity_ok hT) fun v1 G' H' _ hR hG15 hs => ?_)
 obtain ⟨rfl, rfl⟩ := hR
 replace hs : St _ _ [] _ := hs
 replace ha := ha.mono hG15
 replace hb := hb.mono hG15
 replace hw := hw.mono hG15
 replace hT := hT.mono hG15
 refine O_a rfl ?_
 refine O_nil (T_kp [0, 1, 2, 7] rfl ?_)
 refine T_seq (T_region rfl ?_)
 refine O_m rfl ?_
 refine O_s (S_call (H1 := []) hs rfl Tryz.func19 rfl (by kernel_rfl) (small_ok (n := 8) hw) fun v2 G' H' _ hR hG17 hs => ?_)
 obtain ⟨rfl, hw17⟩ := hR
 replace hs : St _ _ [] _ := hs
 replace ha := ha.mono hG17
 replace hb := hb.mono hG17
 replace hw := hw.mono hG17
 replace hT := hT.mono hG17
 obtain ⟨W, hWe⟩ : ∃ W, W = w.take 8 := ⟨_, rfl⟩
 have hWl : W.length ≤ 8 := by rw [hWe, List.length_take]; omega
 rw [← hWe] at hw17
 obtain ⟨Aw17, cw17, rfl, _⟩ := id hw17
 refine O_a rfl ?_
 refine O_nil (T_kp [0, 1, 7, 8] rfl ?_)
 refine T_seq (T_region rfl ?_)
 refine O_m rfl ?_
 refine O_s (S_call (H1 := []) hs rfl Tryz.func16 rfl (by kernel_rfl) (made_ok (most := 20) (by decide) 1048576 _ _ a (by omega) (Nat.le_refl _) ha) fun v3 G' H' _ hR hG19 hs => ?_)
 obtain ⟨rfl, _, hx19, ⟨t19, hok19, hsh19, rfl⟩, hlx19⟩ := hR
 replace hs : St _ _ [] _ := hs
 replace ha := ha.mono hG19
 replace hb := hb.mono hG19
 replace hw := hw.mono hG19
 replace hT := hT.mono hG19
 replace hw17 := hw17.mono hG19
 rw [nodesT_len] at hlx19
 obtain ⟨Ax19, cx19, rfl⟩ := LstR.slice hx19
 refine O_a rfl ?_
 refine O_nil (T_kp [1, 7, 8, 9] rfl ?_)
 refine T_seq (T_region rfl ?_)
 refine O_m rfl ?_
 refine O_s (S_call (H1 := []) hs rfl Tryz.func16 rfl (by kernel_rfl) (made_ok (most := 20) (by decide) 1048576 _ _ b (by omega) (Nat.le_refl _) hb) fun v4 G' H' _ hR hG21 hs => ?_)
 obtain ⟨rfl, _, hx21, ⟨t21, hok21, hsh21, rfl⟩, hlx21⟩ := hR
 replace hs : St _ _ [] _ := hs
 replace ha := ha.mono hG21
 replace hb := hb.mono hG21
 replace hw := hw.mono hG21
 replace hT := hT.mono hG21
 replace hw17 := hw17.mono hG21
 replace hx19 := hx19.mono hG21
 rw [nodesT_len] at hlx21
 obtain ⟨Ax21, cx21, rfl⟩ := LstR.slice hx21
 refine O_a rfl ?_
 refine O_nil (T_kp [7, 8, 9, 10] rfl ?_)
 refine T_seq (T_region rfl ?_)
 refine O_a rfl ?_
 refine O_nil (T_kp [7, 8, 9, 10, 11] rfl ?_)
 refine T_seq (T_seq (T_region rfl ?_))
 refine O_a rfl ?_
 refine O_nil (T_kp [7, 8, 9, 10, 11, 12] rfl ?_)
 refine T_block (T_loop (fun m E w => ∃ (i : Nat) (s : Bool) (G' : Ghost), i ≤ W.length + 1 ∧ s = splitsF (nodesT 0 t19) (nodesT 0 t21) W i ∧ Bytes G' (.slice Aw17 W.length cw17) W ∧ Rx G' (.slice Ax19 (nodesT 0 t19).length cx19) (nodesT 0 t19) ∧ Rx G' (.slice Ax21 (nodesT 0 t21).length cx21) (nodesT 0 t21) ∧ m = W.length + 1 - i ∧ E = ⟨[], [(7, .bool true), (8, .slice Aw17 W.length cw17), (9, .slice Ax19 (nodesT 0 t19).length cx19), (10, .slice Ax21 (nodesT 0 t21).length cx21), (11, .bool s), (12, .int .i64 (i : Int))]⟩ ∧ St ⟨w0, G, feet []⟩ G' [] w) (L := [(7, _), (8, _), (9, _), (10, _), (11, _), (12, _)]) ⟨rfl, rfl, rfl, rfl, rfl, rfl, trivial⟩ (⟨0, false, _, by omega, rfl, hw17, hx19, hx21, rfl, rfl, hs⟩) fun m E w hI => ?_)
 obtain ⟨i, s, G', hi, hsp, hw17, hx19, hx21, rfl, rfl, hs⟩ := hI
 refine T_seq (T_seq (T_region rfl ?_))
 refine O_m rfl ?_
 refine O_m rfl ?_
 refine O_y hs (Y_len Tryz.underlying30 rfl ?_)
 refine O_y hs (Y_cmpS rfl rfl rfl (fun h25 => ?_) (fun h25 => ?_))
 ·
  dsimp only [cmpP] at h25
  refine O_nil (T_kp [7, 8, 9, 10, 11, 12, 25] rfl ?_)
  refine T_condT rfl (T_skip ?_)
  refine T_seq (T_block (T_seq (T_region rfl ?_)))
  refine O_m rfl ?_
  refine O_m rfl ?_
  refine O_m rfl ?_
  refine O_y hs (Y_sliceB hw17 0 i Tryz.underlying30 Tryz.sizeOf5 rfl rfl ⟨_, _, rfl, rfl⟩ (by omega) (by omega) fun s31 hs31 => ?_)
  obtain ⟨A31, c31, rfl, _⟩ := id hs31
  refine O_s (S_call (H1 := []) hs rfl Tryz.func21 rfl (by kernel_rfl) (match_ok hx19 (show Bytes _ _ (W.take i) from hs31) (by rw [nodesT_len]; (try simp only [sizeT]); omega) (by first | omega | (simp only [List.length_take, List.length_drop]; omega))) fun v5 G' H' _ hR hG32 hs => ?_)
  obtain ⟨rfl, rfl⟩ := hR
  replace hs : St _ _ [] _ := hs
  replace hw17 := hw17.mono hG32
  replace hx19 := hx19.mono hG32
  replace hx21 := hx21.mono hG32
  replace hs31 := hs31.mono hG32
  refine O_a rfl ?_
  refine O_nil (T_kp [7, 8, 9, 10, 11, 12, 13] rfl ?_)
  refine T_seq (T_region rfl ?_)
  refine O_m rfl ?_
  refine O_m rfl ?_
  refine O_m rfl ?_
  refine O_y hs (Y_sliceB hw17 i W.length Tryz.underlying30 Tryz.sizeOf5 rfl ⟨_, _, rfl, rfl⟩ rfl (by omega) (by omega) fun s36 hs36 => ?_)
  obtain ⟨A36, c36, rfl, _⟩ := id hs36
  refine O_s (S_call (H1 := []) hs rfl Tryz.func21 rfl (by kernel_rfl) (match_ok hx21 hs36 (by rw [nodesT_len]; (try simp only [sizeT]); omega) (by first | omega | (simp only [List.length_take, List.length_drop]; omega))) fun v6 G' H' _ hR hG37 hs => ?_)
  obtain ⟨rfl, rfl⟩ := hR
  replace hs : St _ _ [] _ := hs
  replace hw17 := hw17.mono hG37
  replace hx19 := hx19.mono hG37
  replace hx21 := hx21.mono hG37
  replace hs31 := hs31.mono hG37
  replace hs36 := hs36.mono hG37
  refine O_a rfl ?_
  refine O_nil (T_kp [7, 8, 9, 10, 11, 12, 13, 14] rfl ?_)
  refine T_region rfl ?_
  refine O_m rfl ?_
  cases s
  ·
   refine O_m rfl ?_
   refine O_yy 39 hs rfl rfl (Y_move rfl ?_)
   cases h41 : matchF (nodesT 0 t19) (W.take i)
   ·
    refine O_yy 39 hs rfl rfl (Y_move rfl ?_)
    refine O_no 41 rfl rfl ?_
    refine O_yy 39 hs rfl rfl (Y_pickF rfl rfl ?_)
    refine O_y hs (Y_pickF rfl rfl ?_)
    refine O_a rfl ?_
    refine O_nil (T_kp [7, 8, 9, 10, 11, 12] rfl ?_)
    refine T_region rfl ?_
    refine O_m rfl ?_
    refine O_y hs (Y_add (c := ((i + 1 : Nat) : Int)) rfl rfl (by omega) (by omega) ?_)
    refine O_a rfl ?_
    have e36 : (W.drop i).take (W.length - i) = W.drop i := List.take_of_length_le (by rw [List.length_drop]; omega)
    refine O_nil ⟨_, ?_, [(7, _), (8, _), (9, _), (10, _), (11, _), (12, _)], ⟨rfl, rfl, rfl, rfl, rfl, rfl, trivial⟩, ⟨i + 1, _, _, by omega, by rw [splits_succ, ← hsp, h41]; rfl, hw17, hx19, hx21, rfl, rfl, hs⟩⟩
    omega
   ·
    refine O_yy 39 hs rfl rfl (Y_move rfl ?_)
    refine O_yy 41 hs rfl rfl (Y_move rfl ?_)
    refine O_yy 39 hs rfl rfl (Y_pickT rfl rfl ?_)
    refine O_y hs (Y_pickF rfl rfl ?_)
    refine O_a rfl ?_
    refine O_nil (T_kp [7, 8, 9, 10, 11, 12] rfl ?_)
    refine T_region rfl ?_
    refine O_m rfl ?_
    refine O_y hs (Y_add (c := ((i + 1 : Nat) : Int)) rfl rfl (by omega) (by omega) ?_)
    refine O_a rfl ?_
    have e36 : (W.drop i).take (W.length - i) = W.drop i := List.take_of_length_le (by rw [List.length_drop]; omega)
    refine O_nil ⟨_, ?_, [(7, _), (8, _), (9, _), (10, _), (11, _), (12, _)], ⟨rfl, rfl, rfl, rfl, rfl, rfl, trivial⟩, ⟨i + 1, _, _, by omega, by rw [splits_succ, ← hsp, h41, e36]; rfl, hw17, hx19, hx21, rfl, rfl, hs⟩⟩
    omega
  ·
   refine O_m rfl ?_
   refine O_no 39 rfl rfl ?_
   cases h41 : matchF (nodesT 0 t19) (W.take i)
   ·
    refine O_no 39 rfl rfl ?_
    refine O_noU 41 rfl rfl ?_
    refine O_no 39 rfl rfl ?_
    refine O_y hs (Y_pickT rfl rfl ?_)
    refine O_a rfl ?_
    refine O_nil (T_kp [7, 8, 9, 10, 11, 12] rfl ?_)
    refine T_region rfl ?_
    refine O_m rfl ?_
    refine O_y hs (Y_add (c := ((i + 1 : Nat) : Int)) rfl rfl (by omega) (by omega) ?_)
    refine O_a rfl ?_
    have e36 : (W.drop i).take (W.length - i) = W.drop i := List.take_of_length_le (by rw [List.length_drop]; omega)
    refine O_nil ⟨_, ?_, [(7, _), (8, _), (9, _), (10, _), (11, _), (12, _)], ⟨rfl, rfl, rfl, rfl, rfl, rfl, trivial⟩, ⟨i + 1, _, _, by omega, by rw [splits_succ, ← hsp]; rfl, hw17, hx19, hx21, rfl, rfl, hs⟩⟩
    omega
   ·
    refine O_no 39 rfl rfl ?_
    refine O_noU 41 rfl rfl ?_
    refine O_no 39 rfl rfl ?_
    refine O_y hs (Y_pickT rfl rfl ?_)
    refine O_a rfl ?_
    refine O_nil (T_kp [7, 8, 9, 10, 11, 12] rfl ?_)
    refine T_region rfl ?_
    refine O_m rfl ?_
    refine O_y hs (Y_add (c := ((i + 1 : Nat) : Int)) rfl rfl (by omega) (by omega) ?_)
    refine O_a rfl ?_
    have e36 : (W.drop i).take (W.length - i) = W.drop i := List.take_of_length_le (by rw [List.length_drop]; omega)
    refine O_nil ⟨_, ?_, [(7, _), (8, _), (9, _), (10, _), (11, _), (12, _)], ⟨rfl, rfl, rfl, rfl, rfl, rfl, trivial⟩, ⟨i + 1, _, _, by omega, by rw [splits_succ, ← hsp]; rfl, hw17, hx19, hx21, rfl, rfl, hs⟩⟩
    omega
 ·
  dsimp only [cmpP] at h25
  refine O_nil (T_kp [7, 8, 9, 10, 11, 12, 25] rfl ?_)
  refine T_condF rfl (T_exit ?_)
  obtain rfl : i = W.length + 1 := by omega
  refine T_seq (T_region rfl ?_)
  refine O_m rfl ?_
  refine O_m rfl ?_
  refine O_yy 46 hs rfl rfl (Y_move rfl ?_)
  refine O_yy 46 hs rfl rfl (Y_move rfl ?_)
  refine O_yes 46 rfl rfl (S_call (H1 := []) hs rfl Tryz.func20 rfl (by kernel_rfl) (rbin_ok (kk := 4) hx19 hx21 (by rw [nodesT_len]; omega) (by rw [nodesT_len]; (try simp only [sizeT]); omega) (IsTree.rng ⟨_, hok21, hsh21, rfl⟩ (by rw [nodesT_len]; (try simp only [sizeT]); omega))) fun v7 G' H' _ hR hG49 hs => ?_)
  obtain ⟨rfl, hU49⟩ := hR
  replace hs : St _ _ [] _ := hs
  replace hw17 := hw17.mono hG49
  replace hx19 := hx19.mono hG49
  replace hx21 := hx21.mono hG49
  rw [binF_nodes (.inl rfl)] at hU49
  change Rx _ _ (nodesT 0 (.cat t19 t21)) at hU49
  refine O_yy 46 hs rfl rfl (Y_move rfl ?_)
  refine O_yes 46 rfl rfl (S_call (H1 := []) hs rfl Tryz.func21 rfl (by kernel_rfl) (match_ok hU49 hw17 (by rw [nodesT_len]; (try simp only [sizeT]); omega) (by first | omega | (simp only [List.length_take, List.length_drop]; omega))) fun v8 G' H' _ hR hG51 hs => ?_)
  obtain ⟨rfl, rfl⟩ := hR
  replace hs : St _ _ [] _ := hs
  replace hw17 := hw17.mono hG51
  replace hx19 := hx19.mono hG51
  replace hx21 := hx21.mono hG51
  replace hU49 := hU49.mono hG51
  refine O_yy 46 hs rfl rfl (Y_move rfl ?_)
  refine O_yy 46 hs rfl rfl (Y_boolEq1 Tryz.underlying4 rfl rfl (by rw [match_cat hok19 hok21 (by omega) (by omega), hsp]) ?_)
  refine O_y hs (Y_pickT rfl rfl ?_)
  refine O_a rfl ?_
  refine O_nil (T_kp [6] rfl ?_)
  refine T_ret ?_
  refine Rt_fin (vs := [_]) Tryz.results7 rfl ⟨rfl, trivial⟩ ?_
  try dsimp only [tup]
  exact ⟨_, [], hs.done, rfl, rfl⟩

end Go.Proofs.YtkmgbcjfidpmgaaGreatDoor
