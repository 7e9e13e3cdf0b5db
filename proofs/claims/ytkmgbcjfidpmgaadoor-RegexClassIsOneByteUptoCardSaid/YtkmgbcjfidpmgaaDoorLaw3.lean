import Derived.Test.YtkmgbcjfidpmgaaDoorExWalks8
import Derived.Test.YtkmgbcjfidpmgaaDoorProg
import Derived.Test.YtkmgbcjfidpmgaaDoorSame
import Derived.Test.YtkmgbcjfidpmgaaDoorExKeys
import Derived.Test.YtkmgbcjfidpmgaaDoorShelf
namespace Go.Proofs.YtkmgbcjfidpmgaaDoor
open Go Go.Ex Go.RowKit


def n1F (c : List Nat) : List NodeV := [⟨3, c, 0, 0, 0, 0⟩]
theorem n1_valid {c : List Nat} : validF (n1F c) = 0 := by rfl
theorem n1_cls {c : List Nat} (h : ClsOk c) : ∀ n ∈ n1F c, ClsOk n.c := fun n hn => by
  obtain rfl : n = ⟨3, c, 0, 0, 0, 0⟩ := by simpa [n1F] using hn
  exact h
theorem n1_ends {c : List Nat} (b : List UInt8) : endsN (n1F c) b 0 0 = if (b[0]?.map (hasF c)).getD false = true then oneB b.length 1 else List.replicate (b.length + 1) false :=
  endsN_3 (l := n1F c) (b := b) (i := 0) (f := 0) (by rfl) (by simp [n1F]) rfl
theorem n1_match {c : List Nat} (b : List UInt8) : matchF (n1F c) b = (decide (b.length = 1) && (b[0]?.map (hasF c)).getD false) := by
  unfold matchF
  rw [if_pos n1_valid, show (n1F c).length - 1 = 0 from rfl, n1_ends]
  cases b with
  | nil => rfl
  | cons x t =>
    simp only [List.getElem?_cons_zero, Option.map_some, Option.getD_some, List.length_cons]
    cases hasF c x with
    | false => rw [if_neg (by simp)]; simp
    | true =>
      rw [if_pos rfl]; unfold oneB
      rw [List.getD_eq_getElem?_getD, List.getElem?_set]
      by_cases ht : t.length = 0
      · simp [ht]
      · rw [if_neg (by omega)]; simp [ht]


theorem Y_boolEq1 {x : Cx} {W : World → Prop} {E : Env} {K : Value → Prop} {d : Option Tmp} {ty : TypeId} {pos : String} {aft : Array Edge} {g : Option (Nat × Bool)} {o p : Operand} {xt yt : TypeId} {a b : Bool} (hu : x.P.underlying xt = some .bool) (h1 : ev E o = some (.bool a)) (h2 : ev E p = some (.bool b)) (hab : a = b) (k : K (.bool true)) : Y x W ⟨d, .binOp .eql xt o p yt, ty, pos, aft, g⟩ E K :=
  Y_boolEqS hu h1 h2 (fun _ => k) (fun h => absurd hab h)
theorem null_ok' {G : Ghost} {v : Value} {l : List NodeV} {x : Bool} (hx : Rx G v l) (hl : l.length ≤ 1000000000) (h : matchF l [] = x) : FnOk Tryd.prog 6 [v] G [] fun r _ H' => H' = [] ∧ r = .bool x := by have := null_ok hx hl; rw [h] at this; exact this


set_option maxHeartbeats 2000000 in
set_option maxRecDepth 10000 in
theorem law1 {G : Ghost} {v : Value} {c : List Nat} {b : List UInt8} (hc : ClsOk c) (hw : Bytes G v b) (hbl : b.length ≤ 1048576) (hT : Tab G) :
    FnOk Tryd.prog 3 [ClsV c, v] G [] fun r _ H' => H' = [] ∧ r = .bool true := by
  obtain ⟨c0, c1, c2, c3, rfl⟩ := four_of hc.1
  obtain ⟨Aw, cw, rfl, _⟩ := id hw
  show FnOk Tryd.prog 3 [.agg #[u64V c0, u64V c1, u64V c2, u64V c3], .slice Aw b.length cw] G [] _
  refine FnOk.of_T [(0, _), (1, _)] Tryd.func3 rfl Tryd.ntmps3 (by simp) rfl fun w0 hs => ?_
  have hw0 := hw
  have hT0 := hT
  refine T_seq (T_region rfl ?_)
  refine O_s (S_box hs rfl (cs := [_, _, _, _]) rfl fun b2 _ hs => ?_)
  refine O_y hs (Y_assign rfl ?_)
  refine O_nil (T_sub [(1, _), (2, _)] ⟨rfl, rfl, trivial⟩ ?_)
  refine T_seq (T_region rfl ?_)
  refine O_s (S_call (H1 := []) hs rfl Tryd.func4 rfl (by kernel_rfl) (sanity_ok hT) fun v1 G' H' _ hR hG7 hs => ?_)
  obtain ⟨rfl, rfl⟩ := hR
  replace hs : St _ _ [_] _ := hs
  replace hw := hw.mono hG7
  replace hT := hT.mono hG7
  refine O_y hs (Y_assign rfl ?_)
  refine O_nil (T_sub [(1, _), (2, _), (5, _)] ⟨rfl, rfl, rfl, trivial⟩ ?_)
  refine T_seq (T_region rfl ?_)
  refine O_y hs (Y_ldA 0 Tryd.isAgg24 Tryd.sizeOf24 rfl rfl (vs := [_, _, _, _]) rfl rfl ?_)
  refine O_y hs (Y_build Tryd.zeroValue28 rfl PL28 rfl (cs := [_, _, _, _, _, _, _, _, _]) rfl ?_)
  refine O_s (S_lit hs Tryd.underlying30 Tryd.sizeOf28 Tryd.zeroValue28 rfl rfl (by decide) (by decide) rfl (cs := [_, _, _, _, _, _, _, _, _]) rfl rfl fun v2 _ hs _ => ?_)
  obtain ⟨_, hG10, hl10, hs⟩ := hs.fixRow noM
  replace hw := hw.mono hG10
  replace hT := hT.mono hG10
  refine O_y hs (Y_assign rfl ?_)
  refine O_nil (T_sub [(1, _), (2, _), (5, _), (6, _)] ⟨rfl, rfl, rfl, rfl, trivial⟩ ?_)
  refine T_seq (T_drawS [0, 1, 2, 3, 4, 5, 6, 7, 8, 9, 10, 11, 12, 13, 14, 15, 16, 17, 18, 19, 20, 21, 22, 23, 24, 25, 26, 27] hs (by kernel_rfl) ?_)
  replace hs := hs.drew
  refine A_take 0 rfl (by kernel_rfl) rfl hs (Y_move rfl ?_)
  refine A_take 1 rfl (by kernel_rfl) rfl hs (Y_move rfl ?_)
  refine A_take 2 rfl (by kernel_rfl) rfl hs (Y_move rfl ?_)
  have hle := hs.le
  refine A_only 3 rfl (by kernel_rfl) rfl (S_call (H1 := []) hs rfl Tryd.func5 rfl (by kernel_rfl) (valid_ok' (show Rx _ _ (n1F [c0, c1, c2, c3]) from rx_of (ns := n1F [c0, c1, c2, c3]) hl10 (n1_cls hc)) (by simp [n1F]) n1_valid) fun v3 G' H' _ hR hG14 hs => ?_)
  obtain ⟨rfl, rfl⟩ := hR
  replace hs : St _ _ [_] _ := hs
  replace hw := hw.mono hG14
  replace hT := hT.mono hG14
  replace hl10 := hl10.mono hG14
  refine A_moreS hs hle hG14 (List.Sublist.refl _) ?_
  refine A_take 4 rfl (by kernel_rfl) rfl hs (Y_cmpT rfl rfl rfl (by decide) ?_)
  refine A_take 5 rfl (by kernel_rfl) rfl hs (Y_pickT rfl rfl ?_)
  refine A_take 6 rfl (by kernel_rfl) rfl hs (Y_move rfl ?_)
  refine A_take 7 rfl (by kernel_rfl) rfl hs (Y_move rfl ?_)
  have hle := hs.le
  refine A_only 8 rfl (by kernel_rfl) rfl (S_call (H1 := []) hs rfl Tryd.func6 rfl (by kernel_rfl) (null_ok' (show Rx _ _ (n1F [c0, c1, c2, c3]) from rx_of (ns := n1F [c0, c1, c2, c3]) hl10 (n1_cls hc)) (by simp [n1F]) (by rw [n1_match])) fun v4 G' H' _ hR hG19 hs => ?_)
  obtain ⟨rfl, rfl⟩ := hR
  replace hs : St _ _ [_] _ := hs
  replace hw := hw.mono hG19
  replace hT := hT.mono hG19
  replace hl10 := hl10.mono hG19
  refine A_moreS hs hle hG19 (List.Sublist.refl _) ?_
  refine A_take 9 rfl (by kernel_rfl) rfl hs (Y_not rfl ?_)
  refine A_take 10 rfl (by kernel_rfl) rfl hs (Y_pickT rfl rfl ?_)
  refine A_take 11 rfl (by kernel_rfl) rfl hs (Y_move rfl ?_)
  refine A_take 12 rfl (by kernel_rfl) rfl hs (Y_move rfl ?_)
  refine A_take 13 rfl (by kernel_rfl) rfl hs (Y_move rfl ?_)
  refine A_take 15 rfl (by kernel_rfl) rfl hs (Y_move rfl ?_)
  refine A_take 16 rfl (by kernel_rfl) rfl hs (Y_len Tryd.underlying25 rfl ?_)
  refine A_take 17 rfl (by kernel_rfl) rfl hs (Y_cmpS rfl rfl rfl (fun h28 => ?_) (fun h28 => ?_))
  · -- h28: True
    dsimp only [cmpP] at h28
    have hle := hs.le
    refine A_only 14 rfl (by kernel_rfl) rfl (S_call (H1 := []) hs rfl Tryd.func7 rfl (by kernel_rfl) (match_ok (show Rx _ _ (n1F [c0, c1, c2, c3]) from rx_of (ns := n1F [c0, c1, c2, c3]) hl10 (n1_cls hc)) hw (by simp [n1F]) (by omega)) fun v5 G' H' _ hR hG25 hs => ?_)
    obtain ⟨rfl, rfl⟩ := hR
    replace hs : St _ _ [_] _ := hs
    replace hw := hw.mono hG25
    replace hT := hT.mono hG25
    replace hl10 := hl10.mono hG25
    refine A_moreS hs hle hG25 (List.Sublist.refl _) ?_
    refine A_take 18 rfl (by kernel_rfl) rfl hs (Y_move rfl ?_)
    refine A_take 19 rfl (by kernel_rfl) rfl hs (Y_ldA 0 Tryd.isAgg24 Tryd.sizeOf24 rfl rfl (vs := [_, _, _, _]) rfl rfl ?_)
    refine A_take 20 rfl (by kernel_rfl) rfl hs (Y_move rfl ?_)
    refine A_take 21 rfl (by kernel_rfl) rfl hs (Y_idxB hw 0 Tryd.underlying25 Tryd.sizeOf5 rfl rfl rfl (by omega) fun p32 hp32 => ?_)
    refine A_take 22 rfl (by kernel_rfl) rfl hs (Y_ldG Tryd.isAgg5 rfl (hp32) ?_)
    have hle := hs.le
    refine A_only 23 rfl (by kernel_rfl) rfl (S_call (H1 := []) hs rfl Tryd.func8 rfl (by kernel_rfl) (rhas_ok (c := [c0, c1, c2, c3]) (x := (b[0]'(by omega))) rfl) fun v6 G' H' _ hR hG34 hs => ?_)
    obtain ⟨rfl, rfl⟩ := hR
    replace hs : St _ _ [_] _ := hs
    replace hw := hw.mono hG34
    replace hT := hT.mono hG34
    replace hl10 := hl10.mono hG34
    cases h34 : hasF [c0, c1, c2, c3] (b[0]'(by omega))
    · -- h34: False
      refine A_moreS hs hle hG34 (List.Sublist.refl _) ?_
      refine A_take 24 rfl (by kernel_rfl) rfl hs (Y_pickT rfl rfl ?_)
      refine A_take 25 rfl (by kernel_rfl) rfl hs (Y_boolEq1 Tryd.underlying4 rfl rfl (by rw [n1_match]; first | (rw [decide_eq_true (by omega), List.getElem?_eq_getElem (by omega)]; simp; exact h34) | (rw [decide_eq_false (by omega)]; rfl)) ?_)
      refine A_take 26 rfl (by kernel_rfl) rfl hs (Y_pickT rfl rfl ?_)
      refine A_take 27 rfl (by kernel_rfl) rfl hs (Y_assign rfl ?_)
      refine A_done (by kernel_rfl) (T_sub [(4, _)] ⟨rfl, trivial⟩ ?_)
      refine T_ret ?_
      refine Rt_fin (vs := [_]) Tryd.results3 rfl ⟨rfl, trivial⟩ ?_
      try dsimp only [tup]
      exact ⟨_, [], hs.done, rfl, rfl⟩
    · -- h34: True
      refine A_moreS hs hle hG34 (List.Sublist.refl _) ?_
      refine A_take 24 rfl (by kernel_rfl) rfl hs (Y_pickT rfl rfl ?_)
      refine A_take 25 rfl (by kernel_rfl) rfl hs (Y_boolEq1 Tryd.underlying4 rfl rfl (by rw [n1_match]; first | (rw [decide_eq_true (by omega), List.getElem?_eq_getElem (by omega)]; simp; exact h34) | (rw [decide_eq_false (by omega)]; rfl)) ?_)
      refine A_take 26 rfl (by kernel_rfl) rfl hs (Y_pickT rfl rfl ?_)
      refine A_take 27 rfl (by kernel_rfl) rfl hs (Y_assign rfl ?_)
      refine A_done (by kernel_rfl) (T_sub [(4, _)] ⟨rfl, trivial⟩ ?_)
      refine T_ret ?_
      refine Rt_fin (vs := [_]) Tryd.results3 rfl ⟨rfl, trivial⟩ ?_
      try dsimp only [tup]
      exact ⟨_, [], hs.done, rfl, rfl⟩
  · -- h28: False
    dsimp only [cmpP] at h28
    have hle := hs.le
    refine A_only 14 rfl (by kernel_rfl) rfl (S_call (H1 := []) hs rfl Tryd.func7 rfl (by kernel_rfl) (match_ok (show Rx _ _ (n1F [c0, c1, c2, c3]) from rx_of (ns := n1F [c0, c1, c2, c3]) hl10 (n1_cls hc)) hw (by simp [n1F]) (by omega)) fun v7 G' H' _ hR hG25 hs => ?_)
    obtain ⟨rfl, rfl⟩ := hR
    replace hs : St _ _ [_] _ := hs
    replace hw := hw.mono hG25
    replace hT := hT.mono hG25
    replace hl10 := hl10.mono hG25
    refine A_moreS hs hle hG25 (List.Sublist.refl _) ?_
    refine A_take 18 rfl (by kernel_rfl) rfl hs (Y_move rfl ?_)
    refine A_skip 19 rfl (by kernel_rfl) rfl hs ?_
    refine A_skip 20 rfl (by kernel_rfl) rfl hs ?_
    refine A_skip 21 rfl (by kernel_rfl) rfl hs ?_
    refine A_skip 22 rfl (by kernel_rfl) rfl hs ?_
    refine A_skip 23 rfl (by kernel_rfl) rfl hs ?_
    refine A_take 24 rfl (by kernel_rfl) rfl hs (Y_pickF rfl rfl ?_)
    refine A_take 25 rfl (by kernel_rfl) rfl hs (Y_boolEq1 Tryd.underlying4 rfl rfl (by rw [n1_match]; first | (rw [decide_eq_true (by omega), List.getElem?_eq_getElem (by omega)]; simp; exact h34) | (rw [decide_eq_false (by omega)]; rfl)) ?_)
    refine A_take 26 rfl (by kernel_rfl) rfl hs (Y_pickT rfl rfl ?_)
    refine A_take 27 rfl (by kernel_rfl) rfl hs (Y_assign rfl ?_)
    refine A_done (by kernel_rfl) (T_sub [(4, _)] ⟨rfl, trivial⟩ ?_)
    refine T_ret ?_
    refine Rt_fin (vs := [_]) Tryd.results3 rfl ⟨rfl, trivial⟩ ?_
    try dsimp only [tup]
    exact ⟨_, [], hs.done, rfl, rfl⟩

end Go.Proofs.YtkmgbcjfidpmgaaDoor
