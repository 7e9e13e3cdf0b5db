import Derived.Test.YtkmgbcjfidpmgaaGreatDoorExWalks7
import Derived.Test.YtkmgbcjfidpmgaaGreatDoorProg
import Derived.Test.YtkmgbcjfidpmgaaGreatDoorSame
import Derived.Test.YtkmgbcjfidpmgaaGreatDoorExThin
import Derived.Test.YtkmgbcjfidpmgaaGreatDoorShelf
namespace Go.Proofs.YtkmgbcjfidpmgaaGreatDoor
open Go Go.Ex Go.RowKit


theorem radd_ok' {G : Ghost} {c d : List Nat} {x : UInt8} (hc : c.length = 4) (hd : addF c x = d) : FnOk Tryz.prog 30 [ClsV c, .int .u8 (x.toNat : Int)] G [] fun r _ H' => H' = [] ∧ r = ClsV d := by subst hd; exact radd_ok hc
def nA : List NodeV := [⟨3, [0, 8589934592, 0, 0], 0, 0, 0, 0⟩, ⟨3, [0, 17179869184, 0, 0], 0, 0, 0, 0⟩, ⟨3, [0, 34359738368, 0, 0], 0, 0, 0, 0⟩, ⟨5, [0, 0, 0, 0], 1, 2, 0, 0⟩, ⟨8, [0, 0, 0, 0], 3, 0, 0, -1⟩, ⟨4, [0, 0, 0, 0], 0, 4, 0, 0⟩]
def nB : List NodeV := [⟨3, [0, 8589934592, 0, 0], 0, 0, 0, 0⟩, ⟨8, [0, 0, 0, 0], 0, 0, 0, -1⟩, ⟨7, [0, 0, 0, 0], 1, 0, 0, 0⟩, ⟨3, [18446744073709551615, 18446744073709551615, 18446744073709551615, 18446744073709551615], 0, 0, 0, 0⟩, ⟨8, [0, 0, 0, 0], 3, 0, 2, 2⟩, ⟨6, [0, 0, 0, 0], 2, 4, 0, 0⟩]
def nC : List NodeV := [⟨3, [35184372088832, 0, 0, 0], 0, 0, 0, 0⟩, ⟨7, [0, 0, 0, 0], 0, 0, 0, 0⟩, ⟨8, [0, 0, 0, 0], 1, 0, 0, -1⟩]
def nD : List NodeV := [⟨3, [0, 0, 0, 0], 0, 0, 0, 0⟩]
def nE : List NodeV := [⟨3, [0, 8589934592, 0, 0], 0, 0, 0, 0⟩, ⟨3, [0, 17179869184, 0, 0], 0, 0, 0, 0⟩, ⟨8, [0, 0, 0, 0], 1, 0, 0, -1⟩, ⟨5, [0, 0, 0, 0], 0, 2, 0, 0⟩]
def nF : List NodeV := [⟨3, [0, 8589934592, 0, 0], 0, 0, 0, 0⟩]
theorem okC : ∀ n ∈ nC, ClsOk n.c := by unfold ClsOk nC W64; decide
theorem okD : ∀ n ∈ nD, ClsOk n.c := by unfold ClsOk nD W64; decide
theorem okE : ∀ n ∈ nE, ClsOk n.c := by unfold ClsOk nE W64; decide
theorem okF : ∀ n ∈ nF, ClsOk n.c := by unfold ClsOk nF W64; decide
theorem pA : parseP [97,40,98,124,99,41,42] 200 = some (.ok nA) := by rfl
set_option maxRecDepth 100000 in
theorem pB : parseP [126,97,42,38,46,123,50,44,50,125] 200 = some (.ok nB) := by rfl
theorem pE : parseP [97,124,98,42] 200 = some (.ok nE) := by rfl
set_option maxRecDepth 100000 in
theorem pF : parseP [91,94,92,120,48,48,45,92,120,54,48,92,120,54,50,45,92,120,102,102,93] 200 = some (.ok nF) := by rfl
theorem p1 : parseP [97,124,124,98] 200 = some (.error (20, 2)) := by rfl
theorem p2 : parseP [40,97] 200 = some (.error (21, 2)) := by rfl
theorem p3 : parseP [97,123,51,44,50,125] 200 = some (.error (20, 4)) := by rfl
theorem p4 : parseP [97,123,49,55,44,125] 200 = some (.error (2, 2)) := by rfl
theorem m1 : matchF nA [97, 98, 99, 98] = true := by rfl
theorem m2 : matchF nA [98, 97] = false := by rfl
theorem m3 : matchF nB [97, 98] = true := by rfl
theorem m4 : matchF nB [97, 97] = false := by rfl
theorem fC : formatF nC = ([40, 126, 92, 120, 50, 100, 41, 42], 0) := by rfl
theorem fD : formatF nD = ([91, 93], 0) := by rfl
theorem v0 : validF [] = 1 := by rfl
theorem fmt_ok' {G : Ghost} {v : Value} {l : List NodeV} {t : List UInt8} {e : Int} (hx : Rx G v l) (hl : l.length ≤ 1000000000) (hT : Tab G) (h : formatF l = (t, e)) : FnOk Tryz.prog 17 [v] G [] fun r _ H' => H' = [] ∧ r = .tuple #[strV t, .int .i64 e] := by have := fmt_ok hx hl hT; rw [h] at this; exact this
theorem match_ok' {G : Ghost} {v wv : Value} {l : List NodeV} {b : List UInt8} {x : Bool} (hx : Rx G v l) (hw : Bytes G wv b) (hl : l.length ≤ 1000000000) (hbl : b.length ≤ 2000000) (h : matchF l b = x) : FnOk Tryz.prog 21 [v, wv] G [] fun r _ H' => H' = [] ∧ r = .bool x := by have := match_ok hx hw hl hbl; rw [h] at this; exact this
theorem valid_ok' {G : Ghost} {v : Value} {l : List NodeV} {e : Int} (hx : Rx G v l) (hl : l.length ≤ 1000000000) (h : validF l = e) : FnOk Tryz.prog 24 [v] G [] fun r _ H' => H' = [] ∧ r = .int .i64 e := by have := valid_ok hx hl; rw [h] at this; exact this
theorem parsed_ok' {G : Ghost} {s : List UInt8} {v : Value} {e : List NodeV} {f : Nat} (hx : Rx G v e) (hl : s.length ≤ 2000000) (hel : e.length ≤ 1000000) (hr : parseP s f = some (.ok e)) : FnOk Tryz.prog 18 [.string ⟨s.toArray⟩, v] G [] fun r _ H' => H' = [] ∧ r = .bool true := by
  have h := parsed_ok hx hl hel hr
  rw [show sameN e (resN (.ok e)) = true from same_t rfl] at h; exact h
theorem refused_ok' {G : Ghost} {s : List UInt8} {ec : Int} {q f : Nat} (hl : s.length ≤ 2000000) (hr : parseP s f = some (.error (ec, q))) : FnOk Tryz.prog 31 [.string ⟨s.toArray⟩, .int .i64 ec, .int .i64 (q : Int)] G [] fun r _ H' => H' = [] ∧ r = .bool true := by
  have h := refused_ok (G := G) (ec := ec) (at_ := (q : Int)) hl hr
  rw [decide_eq_true (show resA (.error (ec, q)) = (q : Int) from rfl), decide_eq_true (show resE (.error (ec, q)) = ec from rfl)] at h; exact h


set_option maxHeartbeats 4000000 in
set_option maxRecDepth 10000 in
theorem sanity_ok {G : Ghost} (hT : Tab G) :
  FnOk Tryz.prog 12 [] G [] fun r _ H' => H' = [] ∧ r = .bool true := by
 refine FnOk.of_T [] Tryz.func12 rfl Tryz.ntmps12 (by simp) rfl fun w0 hs => ?_
 have hT0 := hT
 refine T_seq (T_region rfl ?_)
 refine O_a rfl ?_
 refine O_nil (T_kp [] rfl ?_)
 refine T_seq (T_region rfl ?_)
 refine O_y hs (Y_buildA Tryz.underlying40 Tryz.sizeOf38 Tryz.zeroValue40 rfl rfl (cs := [_, _, _, _]) rfl ?_)
 refine O_s (S_call (H1 := []) hs rfl Tryz.func30 rfl (by kernel_rfl) (radd_ok' (c := noC) (d := [0, 8589934592, 0, 0]) (x := 97) rfl rfl) fun v1 G' H' _ hR hG16 hs => ?_)
 obtain ⟨rfl, rfl⟩ := hR
 replace hs : St _ _ [] _ := hs
 replace hT := hT.mono hG16
 refine O_y hs (Y_build Tryz.zeroValue42 rfl PL42 rfl (cs := [_, _, _, _, _, _, _, _, _]) rfl ?_)
 refine O_s (S_alloc hs Tryz.zeroValue42 (cs := [_, _, _, _, _, _, _, _, _]) rfl fun b1 _ hs => ?_)
 refine O_n (S_stA hs Tryz.sizeOf42 rfl rfl (vs := [_, _, _, _, _, _, _, _, _]) rfl (rfl) (by simp) (cs' := [_, _, _, _, _, _, _, _, _]) rfl fun _ hs => ?_)
 refine O_nil (T_kp [1] rfl ?_)
 refine T_seq (T_region rfl ?_)
 refine O_y hs (Y_buildA Tryz.underlying40 Tryz.sizeOf38 Tryz.zeroValue40 rfl rfl (cs := [_, _, _, _]) rfl ?_)
 refine O_s (S_call (H1 := []) hs rfl Tryz.func30 rfl (by kernel_rfl) (radd_ok' (c := noC) (d := [0, 17179869184, 0, 0]) (x := 98) rfl rfl) fun v2 G' H' _ hR hG19 hs => ?_)
 obtain ⟨rfl, rfl⟩ := hR
 replace hs : St _ _ [_] _ := hs
 replace hT := hT.mono hG19
 refine O_y hs (Y_build Tryz.zeroValue42 rfl PL42 rfl (cs := [_, _, _, _, _, _, _, _, _]) rfl ?_)
 refine O_s (S_alloc hs Tryz.zeroValue42 (cs := [_, _, _, _, _, _, _, _, _]) rfl fun b2 _ hs => ?_)
 refine O_n (S_stA hs Tryz.sizeOf42 rfl rfl (vs := [_, _, _, _, _, _, _, _, _]) rfl (rfl) (by simp) (cs' := [_, _, _, _, _, _, _, _, _]) rfl fun _ hs => ?_)
 refine O_nil (T_kp [1, 2] rfl ?_)
 refine T_seq (T_region rfl ?_)
 refine O_y hs (Y_buildA Tryz.underlying40 Tryz.sizeOf38 Tryz.zeroValue40 rfl rfl (cs := [_, _, _, _]) rfl ?_)
 refine O_s (S_call (H1 := []) hs rfl Tryz.func30 rfl (by kernel_rfl) (radd_ok' (c := noC) (d := [35184372088832, 0, 0, 0]) (x := 45) rfl rfl) fun v3 G' H' _ hR hG22 hs => ?_)
 obtain ⟨rfl, rfl⟩ := hR
 replace hs : St _ _ [_, _] _ := hs
 replace hT := hT.mono hG22
 refine O_y hs (Y_build Tryz.zeroValue42 rfl PL42 rfl (cs := [_, _, _, _, _, _, _, _, _]) rfl ?_)
 refine O_s (S_alloc hs Tryz.zeroValue42 (cs := [_, _, _, _, _, _, _, _, _]) rfl fun b3 _ hs => ?_)
 refine O_n (S_stA hs Tryz.sizeOf42 rfl rfl (vs := [_, _, _, _, _, _, _, _, _]) rfl (rfl) (by simp) (cs' := [_, _, _, _, _, _, _, _, _]) rfl fun _ hs => ?_)
 refine O_nil (T_kp [1, 2, 3] rfl ?_)
 refine T_seq (T_region rfl ?_)
 refine O_y hs (Y_build Tryz.zeroValue42 rfl PL42 rfl (cs := [_, _, _, _, _, _, _, _, _]) rfl ?_)
 refine O_s (S_alloc hs Tryz.zeroValue42 (cs := [_, _, _, _, _, _, _, _, _]) rfl fun b4 _ hs => ?_)
 refine O_n (S_stA hs Tryz.sizeOf42 rfl rfl (vs := [_, _, _, _, _, _, _, _, _]) rfl (rfl) (by simp) (cs' := [_, _, _, _, _, _, _, _, _]) rfl fun _ hs => ?_)
 refine O_nil (T_kp [1, 2, 3, 4] rfl ?_)
 refine T_seq (T_region rfl ?_)
 refine O_s (S_call (H1 := []) hs rfl Tryz.func13 rfl (by kernel_rfl) (parse_ok (f := 200) (by decide) pA) fun v4 G' H' _ hR hG26 hs => ?_)
 obtain ⟨rfl, uA, hUA, rfl⟩ := hR
 replace hs : St _ _ [_, _, _, _] _ := hs
 replace hT := hT.mono hG26
 refine O_m rfl ?_
 refine O_y hs (Y_extract rfl rfl ?_)
 refine O_y hs (Y_extract rfl rfl ?_)
 refine O_y hs (Y_extract rfl rfl ?_)
 refine O_a rfl ?_
 refine O_a rfl ?_
 refine O_a rfl ?_
 refine O_nil (T_kp [1, 2, 3, 4, 5] rfl ?_)
 refine T_seq (T_region rfl ?_)
 refine O_s (S_call (H1 := []) hs rfl Tryz.func13 rfl (by kernel_rfl) (parse_ok (f := 200) (by decide) pB) fun v5 G' H' _ hR hG31 hs => ?_)
 obtain ⟨rfl, uB, hUB, rfl⟩ := hR
 replace hs : St _ _ [_, _, _, _] _ := hs
 replace hT := hT.mono hG31
 replace hUA := hUA.mono hG31
 refine O_m rfl ?_
 refine O_y hs (Y_extract rfl rfl ?_)
 refine O_y hs (Y_extract rfl rfl ?_)
 refine O_y hs (Y_extract rfl rfl ?_)
 refine O_a rfl ?_
 refine O_a rfl ?_
 refine O_a rfl ?_
 refine O_nil (T_kp [1, 2, 3, 4, 5, 8] rfl ?_)
 refine T_seq (T_region rfl ?_)
 refine O_y hs (Y_ldA 1 Tryz.isAgg42 Tryz.sizeOf42 rfl rfl (vs := [_, _, _, _, _, _, _, _, _]) rfl rfl ?_)
 refine O_y hs (Y_build Tryz.zeroValue42 rfl PL42 rfl (cs := [_, _, _, _, _, _, _, _, _]) rfl ?_)
 refine O_y hs (Y_ldA 0 Tryz.isAgg42 Tryz.sizeOf42 rfl rfl (vs := [_, _, _, _, _, _, _, _, _]) rfl rfl ?_)
 refine O_s (S_lit hs Tryz.underlying24 Tryz.sizeOf42 Tryz.zeroValue42 rfl rfl (by decide) (by decide) rfl (cs := [_, _, _, _, _, _, _, _, _, _, _, _, _, _, _, _, _, _, _, _, _, _, _, _, _, _, _]) rfl rfl fun v6 _ hs shv6 => ?_)
 obtain ⟨bv6, rfl⟩ := shv6
 obtain ⟨_, hG39, hl39, hs⟩ := hs.fixRow noM
 replace hT := hT.mono hG39
 replace hUA := hUA.mono hG39
 replace hUB := hUB.mono hG39
 refine O_s (S_call (H1 := []) hs rfl Tryz.func17 rfl (by kernel_rfl) (fmt_ok' (show Rx _ _ nC from rx_of (ns := nC) hl39 okC) (by decide) hT fC) fun v7 G' H' _ hR hG40 hs => ?_)
 obtain ⟨rfl, rfl⟩ := hR
 replace hs : St _ _ [_, _, _, _] _ := hs
 replace hT := hT.mono hG40
 replace hUA := hUA.mono hG40
 replace hUB := hUB.mono hG40
 replace hl39 := hl39.mono hG40
 refine O_m rfl ?_
 refine O_y hs (Y_extract rfl rfl ?_)
 refine O_y hs (Y_extract rfl rfl ?_)
 refine O_a rfl ?_
 refine O_a rfl ?_
 refine O_nil (T_kp [1, 2, 4, 5, 8, 11, 12] rfl ?_)
 refine T_seq (T_region rfl ?_)
 refine O_y hs (Y_build Tryz.zeroValue42 rfl PL42 rfl (cs := [_, _, _, _, _, _, _, _, _]) rfl ?_)
 refine O_s (S_lit hs Tryz.underlying24 Tryz.sizeOf42 Tryz.zeroValue42 rfl rfl (by decide) (by decide) rfl (cs := [_, _, _, _, _, _, _, _, _]) rfl rfl fun v8 _ hs shv8 => ?_)
 obtain ⟨bv8, rfl⟩ := shv8
 obtain ⟨_, hG45, hl45, hs⟩ := hs.fixRow noM
 replace hT := hT.mono hG45
 replace hUA := hUA.mono hG45
 replace hUB := hUB.mono hG45
 replace hl39 := hl39.mono hG45
 refine O_s (S_call (H1 := []) hs rfl Tryz.func17 rfl (by kernel_rfl) (fmt_ok' (show Rx _ _ nD from rx_of (ns := nD) hl45 okD) (by decide) hT fD) fun v9 G' H' _ hR hG46 hs => ?_)
 obtain ⟨rfl, rfl⟩ := hR
 replace hs : St _ _ [_, _, _, _] _ := hs
 replace hT := hT.mono hG46
 replace hUA := hUA.mono hG46
 replace hUB := hUB.mono hG46
 replace hl39 := hl39.mono hG46
 replace hl45 := hl45.mono hG46
 refine O_m rfl ?_
 refine O_y hs (Y_extract rfl rfl ?_)
 refine O_y hs (Y_extract rfl rfl ?_)
 refine O_a rfl ?_
 refine O_a rfl ?_
 refine O_nil (T_kp [1, 2, 4, 5, 8, 11, 12, 13, 14] rfl ?_)
 refine T_seq (T_region rfl ?_)
 refine O_y hs (Y_ldA 3 Tryz.isAgg42 Tryz.sizeOf42 rfl rfl (vs := [_, _, _, _, _, _, _, _, _]) rfl rfl ?_)
 refine O_y hs (Y_ldA 2 Tryz.isAgg42 Tryz.sizeOf42 rfl rfl (vs := [_, _, _, _, _, _, _, _, _]) rfl rfl ?_)
 refine O_y hs (Y_ldA 0 Tryz.isAgg42 Tryz.sizeOf42 rfl rfl (vs := [_, _, _, _, _, _, _, _, _]) rfl rfl ?_)
 refine O_y hs (Y_build Tryz.zeroValue42 rfl PL42 rfl (cs := [_, _, _, _, _, _, _, _, _]) rfl ?_)
 refine O_s (S_lit hs Tryz.underlying24 Tryz.sizeOf42 Tryz.zeroValue42 rfl rfl (by decide) (by decide) rfl (cs := [_, _, _, _, _, _, _, _, _, _, _, _, _, _, _, _, _, _, _, _, _, _, _, _, _, _, _, _, _, _, _, _, _, _, _, _]) rfl rfl fun v10 _ hs shv10 => ?_)
 obtain ⟨bv10, rfl⟩ := shv10
 obtain ⟨_, hG53, hl53, hs⟩ := hs.fixRow noM
 replace hT := hT.mono hG53
 replace hUA := hUA.mono hG53
 replace hUB := hUB.mono hG53
 replace hl39 := hl39.mono hG53
 replace hl45 := hl45.mono hG53
 refine O_s (S_call (H1 := []) hs rfl Tryz.func18 rfl (by kernel_rfl) (parsed_ok' (f := 200) (show Rx _ _ nE from rx_of (ns := nE) hl53 okE) (by decide) (by decide) pE) fun v11 G' H' _ hR hG54 hs => ?_)
 obtain ⟨rfl, rfl⟩ := hR
 replace hs : St _ _ [_, _, _, _] _ := hs
 replace hT := hT.mono hG54
 replace hUA := hUA.mono hG54
 replace hUB := hUB.mono hG54
 replace hl39 := hl39.mono hG54
 replace hl45 := hl45.mono hG54
 replace hl53 := hl53.mono hG54
 refine O_m rfl ?_
 refine O_yes 55 rfl rfl (S_call (H1 := []) hs rfl Tryz.func31 rfl (by kernel_rfl) (refused_ok' (by decide) p1) fun v12 G' H' _ hR hG56 hs => ?_)
 obtain ⟨rfl, rfl⟩ := hR
 replace hs : St _ _ [_, _, _, _] _ := hs
 replace hT := hT.mono hG56
 replace hUA := hUA.mono hG56
 replace hUB := hUB.mono hG56
 replace hl39 := hl39.mono hG56
 replace hl45 := hl45.mono hG56
 replace hl53 := hl53.mono hG56
 refine O_y hs (Y_pickT rfl rfl ?_)
 refine O_m rfl ?_
 refine O_yes 58 rfl rfl (S_call (H1 := []) hs rfl Tryz.func31 rfl (by kernel_rfl) (refused_ok' (by decide) p2) fun v13 G' H' _ hR hG59 hs => ?_)
 obtain ⟨rfl, rfl⟩ := hR
 replace hs : St _ _ [_, _, _, _] _ := hs
 replace hT := hT.mono hG59
 replace hUA := hUA.mono hG59
 replace hUB := hUB.mono hG59
 replace hl39 := hl39.mono hG59
 replace hl45 := hl45.mono hG59
 replace hl53 := hl53.mono hG59
 refine O_y hs (Y_pickT rfl rfl ?_)
 refine O_m rfl ?_
 refine O_yes 61 rfl rfl (S_call (H1 := []) hs rfl Tryz.func31 rfl (by kernel_rfl) (refused_ok' (by decide) p3) fun v14 G' H' _ hR hG62 hs => ?_)
 obtain ⟨rfl, rfl⟩ := hR
 replace hs : St _ _ [_, _, _, _] _ := hs
 replace hT := hT.mono hG62
 replace hUA := hUA.mono hG62
 replace hUB := hUB.mono hG62
 replace hl39 := hl39.mono hG62
 replace hl45 := hl45.mono hG62
 replace hl53 := hl53.mono hG62
 refine O_y hs (Y_pickT rfl rfl ?_)
 refine O_m rfl ?_
 refine O_yes 64 rfl rfl (S_call (H1 := []) hs rfl Tryz.func31 rfl (by kernel_rfl) (refused_ok' (by decide) p4) fun v15 G' H' _ hR hG65 hs => ?_)
 obtain ⟨rfl, rfl⟩ := hR
 replace hs : St _ _ [_, _, _, _] _ := hs
 replace hT := hT.mono hG65
 replace hUA := hUA.mono hG65
 replace hUB := hUB.mono hG65
 replace hl39 := hl39.mono hG65
 replace hl45 := hl45.mono hG65
 replace hl53 := hl53.mono hG65
 refine O_y hs (Y_pickT rfl rfl ?_)
 refine O_m rfl ?_
 refine O_yy 67 hs rfl rfl (Y_move rfl ?_)
 refine O_yes 67 rfl rfl (S_lit hs Tryz.underlying30 Tryz.sizeOf5 Tryz.zeroValue5 rfl rfl (by decide) (by decide) rfl (cs := [_, _, _, _]) rfl rfl fun v16 _ hs shv16 => ?_)
 refine O_yes 67 rfl rfl (S_mark hs shv16 rfl Tryz.underlying30 Tryz.underlying5 noM fun _ _ hG70 hl70 hs => ?_)
 replace hT := hT.mono hG70
 replace hUA := hUA.mono hG70
 replace hUB := hUB.mono hG70
 replace hl39 := hl39.mono hG70
 replace hl45 := hl45.mono hG70
 replace hl53 := hl53.mono hG70
 refine O_yes 67 rfl rfl (S_call (H1 := []) hs rfl Tryz.func21 rfl (by kernel_rfl) (match_ok' hUA (show Bytes _ _ [97, 98, 99, 98] from hl70) (by decide) (by decide) m1) fun v17 G' H' _ hR hG71 hs => ?_)
 obtain ⟨rfl, rfl⟩ := hR
 replace hs : St _ _ [_, _, _, _] _ := hs
 replace hT := hT.mono hG71
 replace hUA := hUA.mono hG71
 replace hUB := hUB.mono hG71
 replace hl39 := hl39.mono hG71
 replace hl45 := hl45.mono hG71
 replace hl53 := hl53.mono hG71
 replace hl70 := hl70.mono hG71
 refine O_y hs (Y_pickT rfl rfl ?_)
 refine O_m rfl ?_
 refine O_yy 73 hs rfl rfl (Y_move rfl ?_)
 refine O_yes 73 rfl rfl (S_lit hs Tryz.underlying30 Tryz.sizeOf5 Tryz.zeroValue5 rfl rfl (by decide) (by decide) rfl (cs := [_, _]) rfl rfl fun v18 _ hs shv18 => ?_)
 refine O_yes 73 rfl rfl (S_mark hs shv18 rfl Tryz.underlying30 Tryz.underlying5 noM fun _ _ hG76 hl76 hs => ?_)
 replace hT := hT.mono hG76
 replace hUA := hUA.mono hG76
 replace hUB := hUB.mono hG76
 replace hl39 := hl39.mono hG76
 replace hl45 := hl45.mono hG76
 replace hl53 := hl53.mono hG76
 replace hl70 := hl70.mono hG76
 refine O_yes 73 rfl rfl (S_call (H1 := []) hs rfl Tryz.func21 rfl (by kernel_rfl) (match_ok' hUA (show Bytes _ _ [98, 97] from hl76) (by decide) (by decide) m2) fun v19 G' H' _ hR hG77 hs => ?_)
 obtain ⟨rfl, rfl⟩ := hR
 replace hs : St _ _ [_, _, _, _] _ := hs
 replace hT := hT.mono hG77
 replace hUA := hUA.mono hG77
 replace hUB := hUB.mono hG77
 replace hl39 := hl39.mono hG77
 replace hl45 := hl45.mono hG77
 replace hl53 := hl53.mono hG77
 replace hl70 := hl70.mono hG77
 replace hl76 := hl76.mono hG77
 refine O_yy 73 hs rfl rfl (Y_not rfl ?_)
 refine O_y hs (Y_pickT rfl rfl ?_)
 refine O_m rfl ?_
 refine O_yy 80 hs rfl rfl (Y_move rfl ?_)
 refine O_yes 80 rfl rfl (S_lit hs Tryz.underlying30 Tryz.sizeOf5 Tryz.zeroValue5 rfl rfl (by decide) (by decide) rfl (cs := [_, _]) rfl rfl fun v20 _ hs shv20 => ?_)
 refine O_yes 80 rfl rfl (S_mark hs shv20 rfl Tryz.underlying30 Tryz.underlying5 noM fun _ _ hG83 hl83 hs => ?_)
 replace hT := hT.mono hG83
 replace hUA := hUA.mono hG83
 replace hUB := hUB.mono hG83
 replace hl39 := hl39.mono hG83
 replace hl45 := hl45.mono hG83
 replace hl53 := hl53.mono hG83
 replace hl70 := hl70.mono hG83
 replace hl76 := hl76.mono hG83
 refine O_yes 80 rfl rfl (S_call (H1 := []) hs rfl Tryz.func21 rfl (by kernel_rfl) (match_ok' hUB (show Bytes _ _ [97, 98] from hl83) (by decide) (by decide) m3) fun v21 G' H' _ hR hG84 hs => ?_)
 obtain ⟨rfl, rfl⟩ := hR
 replace hs : St _ _ [_, _, _, _] _ := hs
 replace hT := hT.mono hG84
 replace hUA := hUA.mono hG84
 replace hUB := hUB.mono hG84
 replace hl39 := hl39.mono hG84
 replace hl45 := hl45.mono hG84
 replace hl53 := hl53.mono hG84
 replace hl70 := hl70.mono hG84
 replace hl76 := hl76.mono hG84
 replace hl83 := hl83.mono hG84
 refine O_y hs (Y_pickT rfl rfl ?_)
 refine O_m rfl ?_
 refine O_yy 86 hs rfl rfl (Y_move rfl ?_)
 refine O_yes 86 rfl rfl (S_lit hs Tryz.underlying30 Tryz.sizeOf5 Tryz.zeroValue5 rfl rfl (by decide) (by decide) rfl (cs := [_, _]) rfl rfl fun v22 _ hs shv22 => ?_)
 refine O_yes 86 rfl rfl (S_mark hs shv22 rfl Tryz.underlying30 Tryz.underlying5 noM fun _ _ hG89 hl89 hs => ?_)
 replace hT := hT.mono hG89
 replace hUA := hUA.mono hG89
 replace hUB := hUB.mono hG89
 replace hl39 := hl39.mono hG89
 replace hl45 := hl45.mono hG89
 replace hl53 := hl53.mono hG89
 replace hl70 := hl70.mono hG89
 replace hl76 := hl76.mono hG89
 replace hl83 := hl83.mono hG89
 refine O_yes 86 rfl rfl (S_call (H1 := []) hs rfl Tryz.func21 rfl (by kernel_rfl) (match_ok' hUB (show Bytes _ _ [97, 97] from hl89) (by decide) (by decide) m4) fun v23 G' H' _ hR hG90 hs => ?_)
 obtain ⟨rfl, rfl⟩ := hR
 replace hs : St _ _ [_, _, _, _] _ := hs
 replace hT := hT.mono hG90
 replace hUA := hUA.mono hG90
 replace hUB := hUB.mono hG90
 replace hl39 := hl39.mono hG90
 replace hl45 := hl45.mono hG90
 replace hl53 := hl53.mono hG90
 replace hl70 := hl70.mono hG90
 replace hl76 := hl76.mono hG90
 replace hl83 := hl83.mono hG90
 replace hl89 := hl89.mono hG90
 refine O_yy 86 hs rfl rfl (Y_not rfl ?_)
 refine O_y hs (Y_pickT rfl rfl ?_)
 refine O_m rfl ?_
 refine O_yy 93 hs rfl rfl (Y_move rfl ?_)
 refine O_yy 93 hs rfl rfl (Y_strEq (b := true) rfl rfl ⟨fun _ => rfl, fun _ => rfl⟩ ?_)
 refine O_y hs (Y_pickT rfl rfl ?_)
 refine O_m rfl ?_
 refine O_yy 97 hs rfl rfl (Y_move rfl ?_)
 refine O_yy 97 hs rfl rfl (Y_cmpT rfl rfl rfl (by decide) ?_)
 refine O_y hs (Y_pickT rfl rfl ?_)
 refine O_m rfl ?_
 refine O_yy 101 hs rfl rfl (Y_move rfl ?_)
 refine O_yy 101 hs rfl rfl (Y_strEq (b := true) rfl rfl ⟨fun _ => rfl, fun _ => rfl⟩ ?_)
 refine O_y hs (Y_pickT rfl rfl ?_)
 refine O_m rfl ?_
 refine O_yy 105 hs rfl rfl (Y_move rfl ?_)
 refine O_yy 105 hs rfl rfl (Y_cmpT rfl rfl rfl (by decide) ?_)
 refine O_y hs (Y_pickT rfl rfl ?_)
 refine O_m rfl ?_
 refine O_yy 109 hs rfl rfl (Y_ldA 3 Tryz.isAgg42 Tryz.sizeOf42 rfl rfl (vs := [_, _, _, _, _, _, _, _, _]) rfl rfl ?_)
 refine O_yes 109 rfl rfl (S_lit hs Tryz.underlying24 Tryz.sizeOf42 Tryz.zeroValue42 rfl rfl (by decide) (by decide) rfl (cs := [_, _, _, _, _, _, _, _, _]) rfl rfl fun v24 _ hs shv24 => ?_)
 obtain ⟨bv24, rfl⟩ := shv24
 obtain ⟨_, hG111, hl111, hs⟩ := hs.fixRow noM
 replace hT := hT.mono hG111
 replace hUA := hUA.mono hG111
 replace hUB := hUB.mono hG111
 replace hl39 := hl39.mono hG111
 replace hl45 := hl45.mono hG111
 replace hl53 := hl53.mono hG111
 replace hl70 := hl70.mono hG111
 replace hl76 := hl76.mono hG111
 replace hl83 := hl83.mono hG111
 replace hl89 := hl89.mono hG111
 refine O_yes 109 rfl rfl (S_call (H1 := []) hs rfl Tryz.func18 rfl (by kernel_rfl) (parsed_ok' (f := 200) (show Rx _ _ nF from rx_of (ns := nF) hl111 okF) (by decide) (by decide) pF) fun v25 G' H' _ hR hG112 hs => ?_)
 obtain ⟨rfl, rfl⟩ := hR
 replace hs : St _ _ [_, _, _, _] _ := hs
 replace hT := hT.mono hG112
 replace hUA := hUA.mono hG112
 replace hUB := hUB.mono hG112
 replace hl39 := hl39.mono hG112
 replace hl45 := hl45.mono hG112
 replace hl53 := hl53.mono hG112
 replace hl70 := hl70.mono hG112
 replace hl76 := hl76.mono hG112
 replace hl83 := hl83.mono hG112
 replace hl89 := hl89.mono hG112
 replace hl111 := hl111.mono hG112
 refine O_y hs (Y_pickT rfl rfl ?_)
 refine O_m rfl ?_
 refine O_yes 114 rfl rfl (S_call (H1 := []) hs rfl Tryz.func24 rfl (by kernel_rfl) (valid_ok' (l := []) LstR.nil (by decide) v0) fun v26 G' H' _ hR hG115 hs => ?_)
 obtain ⟨rfl, rfl⟩ := hR
 replace hs : St _ _ [_, _, _, _] _ := hs
 replace hT := hT.mono hG115
 replace hUA := hUA.mono hG115
 replace hUB := hUB.mono hG115
 replace hl39 := hl39.mono hG115
 replace hl45 := hl45.mono hG115
 replace hl53 := hl53.mono hG115
 replace hl70 := hl70.mono hG115
 replace hl76 := hl76.mono hG115
 replace hl83 := hl83.mono hG115
 replace hl89 := hl89.mono hG115
 replace hl111 := hl111.mono hG115
 refine O_yy 114 hs rfl rfl (Y_cmpT rfl rfl rfl (by decide) ?_)
 refine O_y hs (Y_pickT rfl rfl ?_)
 refine O_a rfl ?_
 refine O_nil (T_kp [0] rfl ?_)
 refine T_ret ?_
 refine Rt_fin (vs := [_]) Tryz.results12 rfl ⟨rfl, trivial⟩ ?_
 try dsimp only [tup]
 exact ⟨_, [], hs.done, rfl, rfl⟩

end Go.Proofs.YtkmgbcjfidpmgaaGreatDoor
