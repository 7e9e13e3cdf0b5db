import Derived.Test.YtkmgbcjfidpmgaaGreatDoorExWalks1
import Derived.Test.YtkmgbcjfidpmgaaGreatDoorProg
import Derived.Test.YtkmgbcjfidpmgaaGreatDoorSame
import Derived.Test.YtkmgbcjfidpmgaaGreatDoorExThin
import Derived.Test.YtkmgbcjfidpmgaaGreatDoorShelf
namespace Go.Proofs.YtkmgbcjfidpmgaaGreatDoor
open Go Go.Ex Go.RowKit
theorem FO42_4 : fieldOff Tryz.prog 42 4 = some 7 := by kernel_rfl
theorem FO42_5 : fieldOff Tryz.prog 42 5 = some 8 := by kernel_rfl
theorem FO53_0 : fieldOff Tryz.prog 53 0 = some 0 := by kernel_rfl
theorem FO53_1 : fieldOff Tryz.prog 53 1 = some 1 := by kernel_rfl
theorem FO57_2 : fieldOff Tryz.prog 57 2 = some 2 := by kernel_rfl
theorem PL42 : places Tryz.prog 42 = some [(0, 1), (1, 4), (5, 1), (6, 1), (7, 1), (8, 1)] := by kernel_rfl
theorem PL57 : places Tryz.prog 57 = some [(0, 1), (1, 1), (2, 1)] := by kernel_rfl
theorem TI42 : TI Tryz.prog 42 (.agg #[.int .i64 0, .int .u64 0, .int .u64 0, .int .u64 0, .int .u64 0, .int .i64 0, .int .i64 0, .int .i64 0, .int .i64 0]) 9 72 := TI.of (by kernel_rfl)

theorem nine1 {a b c d e f g h i : Value} (h1 : a.oneCell' = true) (h2 : b.oneCell' = true) (h3 : c.oneCell' = true) (h4 : d.oneCell' = true) (h5 : e.oneCell' = true) (h6 : f.oneCell' = true) (h7 : g.oneCell' = true) (h8 : h.oneCell' = true) (h9 : i.oneCell' = true) : ∀ y ∈ [a, b, c, d, e, f, g, h, i], y.oneCell' = true := by
  intro y hy
  simp only [List.mem_cons, List.not_mem_nil, or_false] at hy
  rcases hy with rfl | rfl | rfl | rfl | rfl | rfl | rfl | rfl | rfl <;> assumption
theorem flat_emit (ns : List NodeV) (n : NodeV) : (ns ++ [n]).flatMap nodeC = ns.flatMap nodeC ++ nodeC n := by simp


set_option maxHeartbeats 400000 in
set_option maxRecDepth 10000 in
theorem emit_ok {G : Ghost} {p q : Nat} {s : List UInt8} {v : Value} {ns : List NodeV} {n : NodeV} (hc : n.c.length = 4) (hn : ns.length ≤ 100000000) :
  FnOk Tryz.prog 50 [.pointer (some ⟨p, 0, none⟩), .agg (nodeC n).toArray] G [.blk p 57 [.string ⟨s.toArray⟩, .int .i64 (q : Int), v], .row 42 9 v ns.length (ns.flatMap nodeC)] fun r _ H' => ∃ v1, H' = [.blk p 57 [.string ⟨s.toArray⟩, .int .i64 (q : Int), v1], .row 42 9 v1 (ns ++ [n]).length ((ns ++ [n]).flatMap nodeC)] ∧ r = .int .i64 ((ns.length : Nat) : Int) := by
 obtain ⟨k, c, l, r, mn, mx⟩ := n
 obtain ⟨c0, c1, c2, c3, rfl⟩ := four_of hc
 refine FnOk.of_T [(0, _), (1, _)] Tryz.func50 rfl Tryz.ntmps50 (by simp) rfl fun w0 hs => ?_
 refine T_seq (T_region rfl ?_)
 refine O_s (S_box hs rfl (cs := [_, _, _, _, _, _, _, _, _]) rfl fun b3 _ hs => ?_)
 refine O_a rfl ?_
 refine O_nil (T_kp [0, 3] rfl ?_)
 refine T_seq (T_drawS [1, 2, 3, 4, 5, 6] hs (by kernel_rfl) ?_)
 replace hs := hs.drew
 refine A_pure 0 rfl (by kernel_rfl) rfl (Y_move rfl ?_)
 refine A_take 1 rfl (by kernel_rfl) rfl hs (Y_move rfl ?_)
 refine A_take 2 rfl (by kernel_rfl) rfl hs (Y_nil rfl ?_)
 refine A_take 3 rfl (by kernel_rfl) rfl hs (Y_fieldAddr FO57_2 rfl (m := 2) rfl ?_)
 refine A_take 4 rfl (by kernel_rfl) rfl hs (Y_ld 1 Tryz.isAgg24 rfl rfl rfl ?_)
 refine A_take 5 rfl (by kernel_rfl) rfl hs (Y_ldA 0 Tryz.isAgg42 Tryz.sizeOf42 rfl rfl (vs := [_, _, _, _, _, _, _, _, _]) rfl rfl ?_)
 have hle := hs.le
 refine A_only 6 rfl (by kernel_rfl) rfl (S_lit hs Tryz.underlying24 Tryz.sizeOf42 Tryz.zeroValue42 rfl rfl (by decide) (by decide) rfl (cs := [_, _, _, _, _, _, _, _, _]) rfl rfl fun v1 _ hs _ => ?_)
 obtain ⟨_, hG11, hl11, hs⟩ := hs.fixRow (noM2 1 2 hs rfl rfl)
 refine A_moreS hs hle hG11 (List.Sublist.refl _) ?_
 have hs := hs.f2
 refine A_tail 7 rfl (by kernel_rfl) (by kernel_rfl) rfl (S_append hs Tryz.underlying24 TI42 rfl (by decide) rfl rfl (hl11) (nine1 rfl rfl rfl rfl rfl rfl rfl rfl rfl) (by omega) (by omega) fun v2 _ hs => ?_)
 refine A_tail 8 rfl (by kernel_rfl) (by kernel_rfl) rfl (S_y hs rfl (Y_nil rfl ?_))
 refine A_tail 9 rfl (by kernel_rfl) (by kernel_rfl) rfl (S_y hs rfl (Y_fieldAddr FO57_2 rfl (m := 2) rfl ?_))
 have hs := hs.f2
 refine A_tailN 10 rfl (by kernel_rfl) (by kernel_rfl) rfl (S_st hs Tryz.sizeOf24 rfl rfl (hs.rowOne 1 rfl) (by simp) (cs' := [_, _, _]) rfl fun _ hs => ?_)
 refine A_done (by kernel_rfl) (T_kp [0] rfl ?_)
 refine T_seq (T_region rfl ?_)
 refine O_m rfl ?_
 refine O_y hs (Y_nil rfl ?_)
 refine O_y hs (Y_fieldAddr FO57_2 rfl (m := 2) rfl ?_)
 refine O_y hs (Y_ld 0 Tryz.isAgg24 rfl rfl rfl ?_)
 refine O_y hs (Y_lenOwn 1 rfl Tryz.underlying24 rfl hs ?_)
 refine O_y hs (Y_sub (c := ((ns.length : Nat) : Int)) rfl rfl (by omega) (by omega) ?_)
 refine O_a rfl ?_
 refine O_nil (T_kp [4] rfl ?_)
 refine T_ret ?_
 have hs := hs.f1
 have hs := hs.f1
 refine Rt_fin (vs := [_]) Tryz.results50 rfl ⟨rfl, trivial⟩ ?_
 try dsimp only [tup]
 exact ⟨_, _, hs.weak hs.le (Ghost.le.refl _) (List.sublist_append_left [_, _] _), v2, by rw [flat_emit, List.length_append]; rfl, rfl⟩

def PC (fid : Nat) (mdl : List UInt8 → Nat → PS → PRes) (s : List UInt8) (f : Nat) : Prop := ∀ (G : Ghost) (p : Nat) (v : Value) (st : PS) (r : Except Er (Int × PS)), st.p ≤ s.length → s.length ≤ 2000000 → st.nodes.length + 2 * (s.length - st.p) ≤ 10000000 → mdl s f st = some r →
  FnX Tryz.prog fid [.pointer (some ⟨p, 0, none⟩)] G [.blk p 57 [.string ⟨s.toArray⟩, .int .i64 (st.p : Int), v], .row 42 9 v st.nodes.length (st.nodes.flatMap nodeC)] (fun x _ H' => ∃ a st1 v1, r = .ok (a, st1) ∧ x = .int .i64 a ∧ H' = [.blk p 57 [.string ⟨s.toArray⟩, .int .i64 (st1.p : Int), v1], .row 42 9 v1 st1.nodes.length (st1.nodes.flatMap nodeC)]) (fun x _ => ∃ e, r = .error e ∧ x = errV e)
def Rest {α : Type} (r : Except Er (Int × PS)) (ra : Except Er α) (go : α → Prop) : Prop := (∃ e, ra = .error e ∧ r = .error e) ∨ ∃ z, ra = .ok z ∧ go z
theorem Rest.px {α : Type} {r : Except Er (Int × PS)} {ra : Except Er α} {go : α → Prop} {x : Value} (h : Rest r ra go) (hX : ∃ e, ra = .error e ∧ x = errV e) : ∃ e, r = .error e ∧ x = errV e := by
  obtain ⟨e, h1, h2⟩ := hX
  rcases h with ⟨e2, h3, h4⟩ | ⟨z, h3, _⟩
  · rw [h3] at h1; injection h1 with h1; exact ⟨e, by rw [h4, h1], h2⟩
  · rw [h3] at h1; cases h1
theorem Rest.go {α : Type} {r : Except Er (Int × PS)} {ra : Except Er α} {go : α → Prop} {z : α} (h : Rest r ra go) (hX : ra = .ok z) : go z := by
  rcases h with ⟨e2, h3, h4⟩ | ⟨y, h3, h5⟩
  · rw [h3] at hX; cases hX
  · rw [h3] at hX; injection hX with hX; exact hX ▸ h5
theorem rest_of {r : Except Er (Int × PS)} {o : PRes} {go : Int → PS → PRes} (h : (match o with | none => none | some (.error e) => some (.error e) | some (.ok (a, b)) => go a b : PRes) = some r) : ∃ ra, o = some ra ∧ Rest r ra (fun z => go z.1 z.2 = some r) := by
  cases o with
  | none => cases h
  | some ra =>
    refine ⟨ra, rfl, ?_⟩
    cases ra with
    | error e => exact .inl ⟨e, rfl, (Option.some.inj h).symm⟩
    | ok z => exact .inr ⟨z, rfl, h⟩


theorem alt_open {s : List UInt8} {f : Nat} {st : PS} {r : Except Er (Int × PS)} (hr : altF s (f + 1) st = some r) : ∃ ra, andF s f st = some ra ∧ Rest r ra (fun z => altL s f z.1 z.2 = some r) := by
  simp only [altF] at hr
  exact rest_of (go := fun a b => altL s f a b) hr
theorem altL_pos {s : List UInt8} {f : Nat} {l : Int} {st : PS} {r : Except Er (Int × PS)} (hr : altL s f l st = some r) : ∃ k, f = k + 1 := by
  cases f with
  | zero => simp only [altL] at hr; cases hr
  | succ k => exact ⟨k, rfl⟩
theorem altL_stop {s : List UInt8} {f : Nat} {l : Int} {st : PS} {r : Except Er (Int × PS)} (hr : altL s (f + 1) l st = some r) (h : isB s st.p 124 = false) : r = .ok (l, st) := by
  simp only [altL] at hr; rw [if_neg (by rw [h]; simp)] at hr; exact (Option.some.inj hr).symm
theorem altL_go {s : List UInt8} {f : Nat} {l : Int} {st : PS} {r : Except Er (Int × PS)} (hr : altL s (f + 1) l st = some r) (h : isB s st.p 124 = true) : ∃ ra, andF s f (st.at (st.p + 1)) = some ra ∧ Rest r ra (fun z => altL s f z.2.last (z.2.emit (binN 5 l z.1)) = some r) := by
  simp only [altL] at hr; rw [if_pos h] at hr
  exact rest_of (go := fun a b => altL s f b.last (b.emit (binN 5 l a))) hr


set_option maxHeartbeats 1000000 in
set_option maxRecDepth 10000 in
theorem alts_ok {G : Ghost} {p : Nat} {s : List UInt8} {v : Value} {st : PS} {f : Nat} {r : Except Er (Int × PS)} (hq : st.p ≤ s.length) (hl : s.length ≤ 2000000) (hn : st.nodes.length + 2 * (s.length - st.p) ≤ 10000000) (ih : ∀ f', f' ≤ f → PC 48 andF s f') (hr : altF s (f + 1) st = some r) :
  FnX Tryz.prog 33 [.pointer (some ⟨p, 0, none⟩)] G [.blk p 57 [.string ⟨s.toArray⟩, .int .i64 (st.p : Int), v], .row 42 9 v st.nodes.length (st.nodes.flatMap nodeC)] (fun x _ H' => ∃ a st1 v1, r = .ok (a, st1) ∧ x = .int .i64 a ∧ H' = [.blk p 57 [.string ⟨s.toArray⟩, .int .i64 (st1.p : Int), v1], .row 42 9 v1 st1.nodes.length (st1.nodes.flatMap nodeC)]) (fun x _ => ∃ e, r = .error e ∧ x = errV e) := by
 obtain ⟨ra, hra, hco⟩ := alt_open hr
 refine FnX.of_T [(0, _)] Tryz.func33 rfl Tryz.ntmps33 (by simp) rfl fun w0 hs => ?_
 refine T_seq (T_region rfl ?_)
 refine O_a rfl ?_
 refine O_nil (T_kp [0] rfl ?_)
 refine T_seq (T_region rfl ?_)
 refine O_m rfl ?_
 have hs := hs.f1
 have hs := hs.f1
 refine O_s (S_callX (H1 := [_, _]) hs rfl Tryz.func48 rfl (by kernel_rfl) (ih f (Nat.le_refl _) _ p v st ra (by first | exact hq | (rw [at_p]; omega) | omega) hl (by first | exact hn | (rw [at_p, at_n]; omega) | omega) hra) (fun v G' w' hX hG hs => RtX_panic rfl ⟨_, hs.done, hco.px hX⟩) fun v1 G' H' _ hR hG6 hs => ?_)
 obtain ⟨a, st1, v1, h6, rfl, rfl⟩ := hR
 replace hs : St _ _ [_, _] _ := hs
 have hgo := hco.go h6
 have hgd := (good_all s f).2.2.1 st hq a st1 (by rw [hra, h6])
 refine O_a rfl ?_
 refine O_nil (T_kp [0, 3] rfl ?_)
 refine T_seq (T_block (T_loop (fun m E w => ∃ (f' : Nat) (a : Int) (st1 : PS) (v1 : Value) (G' : Ghost), f' ≤ f ∧ altL s f' a st1 = some r ∧ st1.p ≤ s.length ∧ st1.nodes.length + 2 * (s.length - st1.p) ≤ 10000000 ∧ m = f' ∧ E = ⟨[], [(0, .pointer (some ⟨p, 0, none⟩)), (3, .int .i64 a)]⟩ ∧ St ⟨w0, G, feet [.blk p 57 [.string ⟨s.toArray⟩, .int .i64 (st.p : Int), v], .row 42 9 v st.nodes.length (st.nodes.flatMap nodeC)]⟩ G' [.blk p 57 [.string ⟨s.toArray⟩, .int .i64 (st1.p : Int), v1], .row 42 9 v1 st1.nodes.length (st1.nodes.flatMap nodeC)] w) (L := [(0, _), (3, _)]) ⟨rfl, rfl, trivial⟩ (⟨f, a, st1, v1, _, Nat.le_refl _, hgo, hgd.2.1, by omega, rfl, rfl, hs⟩) fun m E w hI => ?_))
 obtain ⟨f', a, st1, v1, G', hf', hgo, hq1, hn1, rfl, rfl, hs⟩ := hI
 obtain ⟨f1, rfl⟩ := altL_pos hgo
 refine T_seq (T_seq (T_region rfl ?_))
 refine O_m rfl ?_
 cases hb8 : isB s st1.p 124
 ·
  refine O_s (S_call (H1 := [_]) hs rfl Tryz.func49 rfl (by kernel_rfl) (accept_f (q := st1.p) (b := 124) (by omega) hl hb8) fun v2 G' H' _ hR hG8 hs => ?_)
  obtain ⟨rfl, rfl⟩ := hR
  replace hs : St _ _ [_, _] _ := hs
  refine O_nil (T_kp [0, 3, 8] rfl ?_)
  refine T_condF rfl (T_exit ?_)
  refine T_seq (T_region rfl ?_)
  refine O_m rfl ?_
  refine O_a rfl ?_
  refine O_nil (T_kp [2] rfl ?_)
  refine T_ret ?_
  refine RtX_fin (vs := [_]) Tryz.results33 rfl ⟨rfl, trivial⟩ ?_
  try dsimp only [tup]
  exact ⟨_, _, hs, a, st1, v1, altL_stop hgo hb8, rfl, rfl⟩
 ·
  have hlt8 := isB_lt hb8
  refine O_s (S_call (H1 := [_]) hs rfl Tryz.func49 rfl (by kernel_rfl) (accept_t (q := st1.p) (b := 124) (by omega) hl hb8) fun v3 G' H' _ hR hG8 hs => ?_)
  obtain ⟨rfl, rfl⟩ := hR
  replace hs : St _ _ [_, _] _ := hs
  refine O_nil (T_kp [0, 3, 8] rfl ?_)
  refine T_condT rfl (T_skip ?_)
  refine T_block (T_seq (T_region rfl ?_))
  refine O_m rfl ?_
  obtain ⟨ra2, hra2, hco2⟩ := altL_go hgo hb8
  have hs := hs.f1
  have hs := hs.f1
  refine O_s (S_callX (H1 := [_, _]) hs rfl Tryz.func48 rfl (by kernel_rfl) (ih f1 (by omega) _ p v1 (st1.at (st1.p + 1)) ra2 (by first | exact hq | (rw [at_p]; omega) | omega) hl (by first | exact hn | (rw [at_p, at_n]; omega) | omega) hra2) (fun v G' w' hX hG hs => RtX_panic rfl ⟨_, hs.done, hco2.px hX⟩) fun v4 G' H' _ hR hG10 hs => ?_)
  obtain ⟨b, st2, v2, h10, rfl, rfl⟩ := hR
  replace hs : St _ _ [_, _] _ := hs
  have hgo2 := hco2.go h10
  have hgd2 := (good_all s f1).2.2.1 (st1.at (st1.p + 1)) (by rw [at_p]; omega) b st2 (by rw [hra2, h10])
  rw [at_p, at_n] at hgd2
  refine O_a rfl ?_
  refine O_nil (T_kp [0, 3, 4] rfl ?_)
  refine T_region rfl ?_
  refine O_m rfl ?_
  refine O_m rfl ?_
  refine O_m rfl ?_
  refine O_y hs (Y_build Tryz.zeroValue42 rfl PL42 rfl (cs := [_, _, _, _, _, _, _, _, _]) rfl ?_)
  have hs := hs.f1
  have hs := hs.f1
  refine O_s (S_call (H1 := [_, _]) hs rfl Tryz.func50 rfl (by kernel_rfl) (emit_ok (q := st2.p) (ns := st2.nodes) (n := binN 5 a b) rfl (by omega)) fun v5 G' H' _ hR hG15 hs => ?_)
  obtain ⟨v3, rfl, rfl⟩ := hR
  replace hs : St _ _ [_, _] _ := hs
  refine O_a rfl ?_
  refine O_nil ⟨_, ?_, [(0, _), (3, _)], ⟨rfl, rfl, trivial⟩, ⟨f1, st2.last, st2.emit (binN 5 a b), v3, _, by omega, hgo2, hgd2.2.1, by rw [emit_n, emit_p]; omega, rfl, rfl, hs⟩⟩
  omega

theorem and_open {s : List UInt8} {f : Nat} {st : PS} {r : Except Er (Int × PS)} (hr : andF s (f + 1) st = some r) : ∃ ra, catF s f st = some ra ∧ Rest r ra (fun z => andL s f z.1 z.2 = some r) := by
  simp only [andF] at hr
  exact rest_of (go := fun a b => andL s f a b) hr
theorem andL_pos {s : List UInt8} {f : Nat} {l : Int} {st : PS} {r : Except Er (Int × PS)} (hr : andL s f l st = some r) : ∃ k, f = k + 1 := by
  cases f with
  | zero => simp only [andL] at hr; cases hr
  | succ k => exact ⟨k, rfl⟩
theorem andL_stop {s : List UInt8} {f : Nat} {l : Int} {st : PS} {r : Except Er (Int × PS)} (hr : andL s (f + 1) l st = some r) (h : isB s st.p 38 = false) : r = .ok (l, st) := by
  simp only [andL] at hr; rw [if_neg (by rw [h]; simp)] at hr; exact (Option.some.inj hr).symm
theorem andL_go {s : List UInt8} {f : Nat} {l : Int} {st : PS} {r : Except Er (Int × PS)} (hr : andL s (f + 1) l st = some r) (h : isB s st.p 38 = true) : ∃ ra, catF s f (st.at (st.p + 1)) = some ra ∧ Rest r ra (fun z => andL s f z.2.last (z.2.emit (binN 6 l z.1)) = some r) := by
  simp only [andL] at hr; rw [if_pos h] at hr
  exact rest_of (go := fun a b => andL s f b.last (b.emit (binN 6 l a))) hr


set_option maxHeartbeats 1000000 in
set_option maxRecDepth 10000 in
theorem ints_ok {G : Ghost} {p : Nat} {s : List UInt8} {v : Value} {st : PS} {f : Nat} {r : Except Er (Int × PS)} (hq : st.p ≤ s.length) (hl : s.length ≤ 2000000) (hn : st.nodes.length + 2 * (s.length - st.p) ≤ 10000000) (ih : ∀ f', f' ≤ f → PC 69 catF s f') (hr : andF s (f + 1) st = some r) :
  FnX Tryz.prog 48 [.pointer (some ⟨p, 0, none⟩)] G [.blk p 57 [.string ⟨s.toArray⟩, .int .i64 (st.p : Int), v], .row 42 9 v st.nodes.length (st.nodes.flatMap nodeC)] (fun x _ H' => ∃ a st1 v1, r = .ok (a, st1) ∧ x = .int .i64 a ∧ H' = [.blk p 57 [.string ⟨s.toArray⟩, .int .i64 (st1.p : Int), v1], .row 42 9 v1 st1.nodes.length (st1.nodes.flatMap nodeC)]) (fun x _ => ∃ e, r = .error e ∧ x = errV e) := by
 obtain ⟨ra, hra, hco⟩ := and_open hr
 refine FnX.of_T [(0, _)] Tryz.func48 rfl Tryz.ntmps48 (by simp) rfl fun w0 hs => ?_
 refine T_seq (T_region rfl ?_)
 refine O_a rfl ?_
 refine O_nil (T_kp [0] rfl ?_)
 refine T_seq (T_region rfl ?_)
 refine O_m rfl ?_
 have hs := hs.f1
 have hs := hs.f1
 refine O_s (S_callX (H1 := [_, _]) hs rfl Tryz.func69 rfl (by kernel_rfl) (ih f (Nat.le_refl _) _ p v st ra (by first | exact hq | (rw [at_p]; omega) | omega) hl (by first | exact hn | (rw [at_p, at_n]; omega) | omega) hra) (fun v G' w' hX hG hs => RtX_panic rfl ⟨_, hs.done, hco.px hX⟩) fun v1 G' H' _ hR hG6 hs => ?_)
 obtain ⟨a, st1, v1, h6, rfl, rfl⟩ := hR
 replace hs : St _ _ [_, _] _ := hs
 have hgo := hco.go h6
 have hgd := (good_all s f).2.2.2.2.1 st hq a st1 (by rw [hra, h6])
 refine O_a rfl ?_
 refine O_nil (T_kp [0, 3] rfl ?_)
 refine T_seq (T_block (T_loop (fun m E w => ∃ (f' : Nat) (a : Int) (st1 : PS) (v1 : Value) (G' : Ghost), f' ≤ f ∧ andL s f' a st1 = some r ∧ st1.p ≤ s.length ∧ st1.nodes.length + 2 * (s.length - st1.p) ≤ 10000000 ∧ m = f' ∧ E = ⟨[], [(0, .pointer (some ⟨p, 0, none⟩)), (3, .int .i64 a)]⟩ ∧ St ⟨w0, G, feet [.blk p 57 [.string ⟨s.toArray⟩, .int .i64 (st.p : Int), v], .row 42 9 v st.nodes.length (st.nodes.flatMap nodeC)]⟩ G' [.blk p 57 [.string ⟨s.toArray⟩, .int .i64 (st1.p : Int), v1], .row 42 9 v1 st1.nodes.length (st1.nodes.flatMap nodeC)] w) (L := [(0, _), (3, _)]) ⟨rfl, rfl, trivial⟩ (⟨f, a, st1, v1, _, Nat.le_refl _, hgo, hgd.2.1, by omega, rfl, rfl, hs⟩) fun m E w hI => ?_))
 obtain ⟨f', a, st1, v1, G', hf', hgo, hq1, hn1, rfl, rfl, hs⟩ := hI
 obtain ⟨f1, rfl⟩ := andL_pos hgo
 refine T_seq (T_seq (T_region rfl ?_))
 refine O_m rfl ?_
 cases hb8 : isB s st1.p 38
 ·
  refine O_s (S_call (H1 := [_]) hs rfl Tryz.func49 rfl (by kernel_rfl) (accept_f (q := st1.p) (b := 38) (by omega) hl hb8) fun v2 G' H' _ hR hG8 hs => ?_)
  obtain ⟨rfl, rfl⟩ := hR
  replace hs : St _ _ [_, _] _ := hs
  refine O_nil (T_kp [0, 3, 8] rfl ?_)
  refine T_condF rfl (T_exit ?_)
  refine T_seq (T_region rfl ?_)
  refine O_m rfl ?_
  refine O_a rfl ?_
  refine O_nil (T_kp [2] rfl ?_)
  refine T_ret ?_
  refine RtX_fin (vs := [_]) Tryz.results48 rfl ⟨rfl, trivial⟩ ?_
  try dsimp only [tup]
  exact ⟨_, _, hs, a, st1, v1, andL_stop hgo hb8, rfl, rfl⟩
 ·
  have hlt8 := isB_lt hb8
  refine O_s (S_call (H1 := [_]) hs rfl Tryz.func49 rfl (by kernel_rfl) (accept_t (q := st1.p) (b := 38) (by omega) hl hb8) fun v3 G' H' _ hR hG8 hs => ?_)
  obtain ⟨rfl, rfl⟩ := hR
  replace hs : St _ _ [_, _] _ := hs
  refine O_nil (T_kp [0, 3, 8] rfl ?_)
  refine T_condT rfl (T_skip ?_)
  refine T_block (T_seq (T_region rfl ?_))
  refine O_m rfl ?_
  obtain ⟨ra2, hra2, hco2⟩ := andL_go hgo hb8
  have hs := hs.f1
  have hs := hs.f1
  refine O_s (S_callX (H1 := [_, _]) hs rfl Tryz.func69 rfl (by kernel_rfl) (ih f1 (by omega) _ p v1 (st1.at (st1.p + 1)) ra2 (by first | exact hq | (rw [at_p]; omega) | omega) hl (by first | exact hn | (rw [at_p, at_n]; omega) | omega) hra2) (fun v G' w' hX hG hs => RtX_panic rfl ⟨_, hs.done, hco2.px hX⟩) fun v4 G' H' _ hR hG10 hs => ?_)
  obtain ⟨b, st2, v2, h10, rfl, rfl⟩ := hR
  replace hs : St _ _ [_, _] _ := hs
  have hgo2 := hco2.go h10
  have hgd2 := (good_all s f1).2.2.2.2.1 (st1.at (st1.p + 1)) (by rw [at_p]; omega) b st2 (by rw [hra2, h10])
  rw [at_p, at_n] at hgd2
  refine O_a rfl ?_
  refine O_nil (T_kp [0, 3, 4] rfl ?_)
  refine T_region rfl ?_
  refine O_m rfl ?_
  refine O_m rfl ?_
  refine O_m rfl ?_
  refine O_y hs (Y_build Tryz.zeroValue42 rfl PL42 rfl (cs := [_, _, _, _, _, _, _, _, _]) rfl ?_)
  have hs := hs.f1
  have hs := hs.f1
  refine O_s (S_call (H1 := [_, _]) hs rfl Tryz.func50 rfl (by kernel_rfl) (emit_ok (q := st2.p) (ns := st2.nodes) (n := binN 6 a b) rfl (by omega)) fun v5 G' H' _ hR hG15 hs => ?_)
  obtain ⟨v3, rfl, rfl⟩ := hR
  replace hs : St _ _ [_, _] _ := hs
  refine O_a rfl ?_
  refine O_nil ⟨_, ?_, [(0, _), (3, _)], ⟨rfl, rfl, trivial⟩, ⟨f1, st2.last, st2.emit (binN 6 a b), v3, _, by omega, hgo2, hgd2.2.1, by rw [emit_n, emit_p]; omega, rfl, rfl, hs⟩⟩
  omega

theorem catF_open {s : List UInt8} {f : Nat} {st : PS} {r : Except Er (Int × PS)} (hr : catF s (f + 1) st = some r) : ∃ ra, itemF s f st = some ra ∧ Rest r ra (fun z => catL s f z.1 z.2 = some r) := by
  simp only [catF] at hr
  exact rest_of (go := fun a b => catL s f a b) hr
theorem catL_pos {s : List UInt8} {f : Nat} {l : Int} {st : PS} {r : Except Er (Int × PS)} (hr : catL s f l st = some r) : ∃ k, f = k + 1 := by
  cases f with
  | zero => simp only [catL] at hr; cases hr
  | succ k => exact ⟨k, rfl⟩
theorem catL_stop {s : List UInt8} {f : Nat} {l : Int} {st : PS} {r : Except Er (Int × PS)} (hr : catL s (f + 1) l st = some r) (h : stopB s st.p = true) : r = .ok (l, st) := by
  simp only [catL] at hr; rw [if_pos h] at hr; exact (Option.some.inj hr).symm
theorem catL_go {s : List UInt8} {f : Nat} {l : Int} {st : PS} {r : Except Er (Int × PS)} (hr : catL s (f + 1) l st = some r) (h : stopB s st.p = false) : ∃ ra, itemF s f st = some ra ∧ Rest r ra (fun z => catL s f z.2.last (z.2.emit (binN 4 l z.1)) = some r) := by
  simp only [catL] at hr; rw [if_neg (by rw [h]; simp)] at hr
  exact rest_of (go := fun a b => catL s f b.last (b.emit (binN 4 l a))) hr
theorem stop_of {s : List UInt8} {q : Nat} (h : peekI s q = -1 ∨ peekI s q = 124 ∨ peekI s q = 38 ∨ peekI s q = 41) : stopB s q = true := by
  unfold stopB
  rcases h with h | h | h | h
  · have : s.length ≤ q := by
      rcases Nat.lt_or_ge q s.length with h' | h'
      · rw [peek_at h'] at h; omega
      · exact h'
    simp [this]
  · rw [isB_of (b := 124) (k := 124) rfl h]; simp
  · rw [isB_of (b := 38) (k := 38) rfl h]; simp
  · rw [isB_of (b := 41) (k := 41) rfl h]; simp
theorem stop_off {s : List UInt8} {q : Nat} (h0 : ¬ peekI s q = -1) (h1 : ¬ peekI s q = 124) (h2 : ¬ peekI s q = 38) (h3 : ¬ peekI s q = 41) : stopB s q = false := by
  unfold stopB
  have hr := peek_rng s q
  have := peek_lt (s := s) (q := q) (by omega)
  rw [isB_off (b := 124) (k := 124) rfl h1, isB_off (b := 38) (k := 38) rfl h2, isB_off (b := 41) (k := 41) rfl h3]
  simp; omega


set_option maxHeartbeats 1000000 in
set_option maxRecDepth 10000 in
theorem seq_ok {G : Ghost} {p : Nat} {s : List UInt8} {v : Value} {st : PS} {f : Nat} {r : Except Er (Int × PS)} (hq : st.p ≤ s.length) (hl : s.length ≤ 2000000) (hn : st.nodes.length + 2 * (s.length - st.p) ≤ 10000000) (ih : ∀ f', f' ≤ f → PC 90 itemF s f') (hr : catF s (f + 1) st = some r) :
  FnX Tryz.prog 69 [.pointer (some ⟨p, 0, none⟩)] G [.blk p 57 [.string ⟨s.toArray⟩, .int .i64 (st.p : Int), v], .row 42 9 v st.nodes.length (st.nodes.flatMap nodeC)] (fun x _ H' => ∃ a st1 v1, r = .ok (a, st1) ∧ x = .int .i64 a ∧ H' = [.blk p 57 [.string ⟨s.toArray⟩, .int .i64 (st1.p : Int), v1], .row 42 9 v1 st1.nodes.length (st1.nodes.flatMap nodeC)]) (fun x _ => ∃ e, r = .error e ∧ x = errV e) := by
 obtain ⟨ra, hra, hco⟩ := catF_open hr
 refine FnX.of_T [(0, _)] Tryz.func69 rfl Tryz.ntmps69 (by simp) rfl fun w0 hs => ?_
 refine T_seq (T_region rfl ?_)
 refine O_a rfl ?_
 refine O_nil (T_kp [0] rfl ?_)
 refine T_seq (T_region rfl ?_)
 refine O_m rfl ?_
 have hs := hs.f1
 have hs := hs.f1
 refine O_s (S_callX (H1 := [_, _]) hs rfl Tryz.func90 rfl (by kernel_rfl) (ih f (Nat.le_refl _) _ p v st ra (by first | exact hq | (rw [at_p]; omega) | omega) hl (by first | exact hn | (rw [at_p, at_n]; omega) | omega) hra) (fun v G' w' hX hG hs => RtX_panic rfl ⟨_, hs.done, hco.px hX⟩) fun v1 G' H' _ hR hG6 hs => ?_)
 obtain ⟨a, st1, v1, h6, rfl, rfl⟩ := hR
 replace hs : St _ _ [_, _] _ := hs
 have hgo := hco.go h6
 have hgd := (good_all s f).2.2.2.2.2.2.1 st hq a st1 (by rw [hra, h6])
 refine O_a rfl ?_
 refine O_nil (T_kp [0, 3] rfl ?_)
 refine T_block (T_loop (fun m E w => ∃ (f' : Nat) (a : Int) (st1 : PS) (v1 : Value) (G' : Ghost), f' ≤ f ∧ catL s f' a st1 = some r ∧ st1.p ≤ s.length ∧ st1.nodes.length + 2 * (s.length - st1.p) ≤ 10000000 ∧ m = f' ∧ E = ⟨[], [(0, .pointer (some ⟨p, 0, none⟩)), (3, .int .i64 a)]⟩ ∧ St ⟨w0, G, feet [.blk p 57 [.string ⟨s.toArray⟩, .int .i64 (st.p : Int), v], .row 42 9 v st.nodes.length (st.nodes.flatMap nodeC)]⟩ G' [.blk p 57 [.string ⟨s.toArray⟩, .int .i64 (st1.p : Int), v1], .row 42 9 v1 st1.nodes.length (st1.nodes.flatMap nodeC)] w) (L := [(0, _), (3, _)]) ⟨rfl, rfl, trivial⟩ (⟨f, a, st1, v1, _, Nat.le_refl _, hgo, hgd.2.1, by omega, rfl, rfl, hs⟩) fun m E w hI => ?_)
 obtain ⟨f', a, st1, v1, G', hf', hgo, hq1, hn1, rfl, rfl, hs⟩ := hI
 obtain ⟨f1, rfl⟩ := catL_pos hgo
 refine T_block (T_seq (T_seq (T_region rfl ?_)))
 refine O_m rfl ?_
 refine O_s (S_call (H1 := [_]) hs rfl Tryz.func70 rfl (by kernel_rfl) (peek_ok (q := st1.p) (by omega) hl) fun v2 G' H' _ hR hG8 hs => ?_)
 obtain ⟨rfl, rfl⟩ := hR
 replace hs : St _ _ [_, _] _ := hs
 refine O_nil (T_kp [0, 3, 8] rfl ?_)
 refine T_block (T_seq (T_seq (T_region rfl ?_)))
 refine O_y hs (Y_cmpS rfl rfl rfl (fun h10 => ?_) (fun h10 => ?_))
 ·
  dsimp only [cmpP] at h10
  refine O_a rfl ?_
  refine O_nil (T_kp [0, 3, 8, 9] rfl ?_)
  refine T_condT rfl (T_skip ?_)
  refine T_condT rfl (T_seq (T_region rfl ?_))
  refine O_m rfl ?_
  refine O_a rfl ?_
  refine O_nil (T_kp [2] rfl ?_)
  refine T_ret ?_
  refine RtX_fin (vs := [_]) Tryz.results69 rfl ⟨rfl, trivial⟩ ?_
  try dsimp only [tup]
  exact ⟨_, _, hs, a, st1, v1, catL_stop hgo (stop_of (by omega)), rfl, rfl⟩
 ·
  dsimp only [cmpP] at h10
  refine O_a rfl ?_
  refine O_nil (T_kp [0, 3, 8, 9] rfl ?_)
  refine T_condF rfl (T_seq (T_region rfl ?_))
  refine O_y hs (Y_cmpS rfl rfl rfl (fun h11 => ?_) (fun h11 => ?_))
  ·
   dsimp only [cmpP] at h11
   refine O_a rfl ?_
   refine O_nil (T_kp [0, 3, 8, 9] rfl ?_)
   refine T_condT rfl (T_skip ?_)
   refine T_condT rfl (T_seq (T_region rfl ?_))
   refine O_m rfl ?_
   refine O_a rfl ?_
   refine O_nil (T_kp [2] rfl ?_)
   refine T_ret ?_
   refine RtX_fin (vs := [_]) Tryz.results69 rfl ⟨rfl, trivial⟩ ?_
   try dsimp only [tup]
   exact ⟨_, _, hs, a, st1, v1, catL_stop hgo (stop_of (by omega)), rfl, rfl⟩
  ·
   dsimp only [cmpP] at h11
   refine O_a rfl ?_
   refine O_nil (T_kp [0, 3, 8, 9] rfl ?_)
   refine T_condF rfl (T_seq (T_region rfl ?_))
   refine O_y hs (Y_cmpS rfl rfl rfl (fun h12 => ?_) (fun h12 => ?_))
   ·
    dsimp only [cmpP] at h12
    refine O_a rfl ?_
    refine O_nil (T_kp [0, 3, 8, 9] rfl ?_)
    refine T_condT rfl (T_skip ?_)
    refine T_condT rfl (T_seq (T_region rfl ?_))
    refine O_m rfl ?_
    refine O_a rfl ?_
    refine O_nil (T_kp [2] rfl ?_)
    refine T_ret ?_
    refine RtX_fin (vs := [_]) Tryz.results69 rfl ⟨rfl, trivial⟩ ?_
    try dsimp only [tup]
    exact ⟨_, _, hs, a, st1, v1, catL_stop hgo (stop_of (by omega)), rfl, rfl⟩
   ·
    dsimp only [cmpP] at h12
    refine O_a rfl ?_
    refine O_nil (T_kp [0, 3, 8, 9] rfl ?_)
    refine T_condF rfl (T_region rfl ?_)
    refine O_y hs (Y_cmpS rfl rfl rfl (fun h13 => ?_) (fun h13 => ?_))
    ·
     dsimp only [cmpP] at h13
     refine O_a rfl ?_
     refine O_nil (T_kp [0, 3, 9] rfl ?_)
     refine T_condT rfl (T_seq (T_region rfl ?_))
     refine O_m rfl ?_
     refine O_a rfl ?_
     refine O_nil (T_kp [2] rfl ?_)
     refine T_ret ?_
     refine RtX_fin (vs := [_]) Tryz.results69 rfl ⟨rfl, trivial⟩ ?_
     try dsimp only [tup]
     exact ⟨_, _, hs, a, st1, v1, catL_stop hgo (stop_of (by omega)), rfl, rfl⟩
    ·
     dsimp only [cmpP] at h13
     refine O_a rfl ?_
     refine O_nil (T_kp [0, 3, 9] rfl ?_)
     refine T_condF rfl (T_skip ?_)
     refine T_seq (T_region rfl ?_)
     refine O_m rfl ?_
     obtain ⟨ra2, hra2, hco2⟩ := catL_go hgo (stop_off (by omega) (by omega) (by omega) (by omega))
     have hs := hs.f1
     have hs := hs.f1
     refine O_s (S_callX (H1 := [_, _]) hs rfl Tryz.func90 rfl (by kernel_rfl) (ih f1 (by omega) _ p v1 st1 ra2 (by first | exact hq | (rw [at_p]; omega) | omega) hl (by first | exact hn | (rw [at_p, at_n]; omega) | omega) hra2) (fun v G' w' hX hG hs => RtX_panic rfl ⟨_, hs.done, hco2.px hX⟩) fun v3 G' H' _ hR hG16 hs => ?_)
     obtain ⟨b, st2, v2, h16, rfl, rfl⟩ := hR
     replace hs : St _ _ [_, _] _ := hs
     have hgo2 := hco2.go h16
     have hgd2 := (good_all s f1).2.2.2.2.2.2.1 st1 hq1 b st2 (by rw [hra2, h16])
     refine O_a rfl ?_
     refine O_nil (T_kp [0, 3, 4] rfl ?_)
     refine T_region rfl ?_
     refine O_m rfl ?_
     refine O_m rfl ?_
     refine O_m rfl ?_
     refine O_y hs (Y_build Tryz.zeroValue42 rfl PL42 rfl (cs := [_, _, _, _, _, _, _, _, _]) rfl ?_)
     have hs := hs.f1
     have hs := hs.f1
     refine O_s (S_call (H1 := [_, _]) hs rfl Tryz.func50 rfl (by kernel_rfl) (emit_ok (q := st2.p) (ns := st2.nodes) (n := binN 4 a b) rfl (by omega)) fun v4 G' H' _ hR hG21 hs => ?_)
     obtain ⟨v3, rfl, rfl⟩ := hR
     replace hs : St _ _ [_, _] _ := hs
     refine O_a rfl ?_
     refine O_nil ⟨_, ?_, [(0, _), (3, _)], ⟨rfl, rfl, trivial⟩, ⟨f1, st2.last, st2.emit (binN 4 a b), v3, _, by omega, hgo2, hgd2.2.1, by rw [emit_n, emit_p]; omega, rfl, rfl, hs⟩⟩
     omega

theorem itemF_neg {s : List UInt8} {f : Nat} {st : PS} {r : Except Er (Int × PS)} (hr : itemF s (f + 1) st = some r) (h : isB s st.p 126 = true) : ∃ ra, itemF s f (st.at (st.p + 1)) = some ra ∧ Rest r ra (fun z => r = .ok (z.2.last, z.2.emit ⟨7, noC, z.1, 0, 0, 0⟩)) := by
  simp only [itemF] at hr; rw [if_pos h] at hr
  obtain ⟨ra, h1, h2⟩ := rest_of (go := fun x st1 => some (.ok (st1.last, st1.emit ⟨7, noC, x, 0, 0, 0⟩))) hr
  exact ⟨ra, h1, h2.imp id fun ⟨z, h3, h4⟩ => ⟨z, h3, (Option.some.inj h4).symm⟩⟩
theorem itemF_atom {s : List UInt8} {f : Nat} {st : PS} {r : Except Er (Int × PS)} (hr : itemF s (f + 1) st = some r) (h : isB s st.p 126 = false) : ∃ ra, atomF s f st = some ra ∧ Rest r ra (fun z => itemL s f z.1 z.2 = some r) := by
  simp only [itemF] at hr; rw [if_neg (by rw [h]; simp)] at hr
  exact rest_of (go := fun a b => itemL s f a b) hr
theorem itemL_pos {s : List UInt8} {f : Nat} {l : Int} {st : PS} {r : Except Er (Int × PS)} (hr : itemL s f l st = some r) : ∃ k, f = k + 1 := by
  cases f with
  | zero => simp only [itemL] at hr; cases hr
  | succ k => exact ⟨k, rfl⟩
theorem itemL_stop {s : List UInt8} {f : Nat} {x : Int} {st : PS} {r : Except Er (Int × PS)} (hr : itemL s (f + 1) x st = some r) (h : sufP s st.p = .ok none) : r = .ok (x, st) := by
  simp only [itemL] at hr; rw [h] at hr; exact (Option.some.inj hr).symm
theorem itemL_err {s : List UInt8} {f : Nat} {x : Int} {st : PS} {r : Except Er (Int × PS)} {e : Er} (hr : itemL s (f + 1) x st = some r) (h : sufP s st.p = .error e) : r = .error e := by
  simp only [itemL] at hr; rw [h] at hr; exact (Option.some.inj hr).symm
theorem itemL_go {s : List UInt8} {f : Nat} {x a b : Int} {q : Nat} {st : PS} {r : Except Er (Int × PS)} (hr : itemL s (f + 1) x st = some r) (h : sufP s st.p = .ok (some (a, b, q))) : itemL s f st.last ((st.at q).emit ⟨8, noC, x, 0, a, b⟩) = some r := by
  simp only [itemL] at hr; rw [h] at hr; exact hr
theorem suf_1 {s : List UInt8} {p : Nat} (h : isB s p 42 = true) : sufP s p = .ok (some (0, -1, p + 1)) := if_pos h
theorem suf_2 {s : List UInt8} {p : Nat} (h1 : isB s p 42 = false) (h : isB s p 43 = true) : sufP s p = .ok (some (1, -1, p + 1)) := by unfold sufP; rw [if_neg (by rw [h1]; simp), if_pos h]
theorem suf_3 {s : List UInt8} {p : Nat} (h1 : isB s p 42 = false) (h2 : isB s p 43 = false) (h : isB s p 63 = true) : sufP s p = .ok (some (0, 1, p + 1)) := by unfold sufP; rw [if_neg (by rw [h1]; simp), if_neg (by rw [h2]; simp), if_pos h]
theorem suf_4 {s : List UInt8} {p q : Nat} {a b : Int} (h1 : isB s p 42 = false) (h2 : isB s p 43 = false) (h3 : isB s p 63 = false) (h : isB s p 123 = true) (hb : boundsP s (p + 1) = .ok (a, b, q)) : sufP s p = .ok (some (a, b, q)) := by unfold sufP; rw [if_neg (by rw [h1]; simp), if_neg (by rw [h2]; simp), if_neg (by rw [h3]; simp), if_pos h, hb]
theorem suf_5 {s : List UInt8} {p : Nat} {e : Er} (h1 : isB s p 42 = false) (h2 : isB s p 43 = false) (h3 : isB s p 63 = false) (h : isB s p 123 = true) (hb : boundsP s (p + 1) = .error e) : sufP s p = .error e := by unfold sufP; rw [if_neg (by rw [h1]; simp), if_neg (by rw [h2]; simp), if_neg (by rw [h3]; simp), if_pos h, hb]
theorem suf_6 {s : List UInt8} {p : Nat} (h1 : isB s p 42 = false) (h2 : isB s p 43 = false) (h3 : isB s p 63 = false) (h : isB s p 123 = false) : sufP s p = .ok none := by unfold sufP; rw [if_neg (by rw [h1]; simp), if_neg (by rw [h2]; simp), if_neg (by rw [h3]; simp), if_neg (by rw [h]; simp)]


set_option maxHeartbeats 1000000 in
set_option maxRecDepth 10000 in
theorem item_ok {G : Ghost} {p : Nat} {s : List UInt8} {v : Value} {st : PS} {f : Nat} {r : Except Er (Int × PS)} (hq : st.p ≤ s.length) (hl : s.length ≤ 2000000) (hn : st.nodes.length + 2 * (s.length - st.p) ≤ 10000000) (ihi : ∀ f', f' ≤ f → PC 90 itemF s f') (iha : ∀ f', f' ≤ f → PC 99 atomF s f') (hr : itemF s (f + 1) st = some r) :
  FnX Tryz.prog 90 [.pointer (some ⟨p, 0, none⟩)] G [.blk p 57 [.string ⟨s.toArray⟩, .int .i64 (st.p : Int), v], .row 42 9 v st.nodes.length (st.nodes.flatMap nodeC)] (fun x _ H' => ∃ a st1 v1, r = .ok (a, st1) ∧ x = .int .i64 a ∧ H' = [.blk p 57 [.string ⟨s.toArray⟩, .int .i64 (st1.p : Int), v1], .row 42 9 v1 st1.nodes.length (st1.nodes.flatMap nodeC)]) (fun x _ => ∃ e, r = .error e ∧ x = errV e) := by
 refine FnX.of_T [(0, _)] Tryz.func90 rfl Tryz.ntmps90 (by simp) rfl fun w0 hs => ?_
 refine T_seq (T_region rfl ?_)
 refine O_a rfl ?_
 refine O_nil (T_kp [0] rfl ?_)
 refine T_seq (T_seq (T_region rfl ?_))
 refine O_m rfl ?_
 cases hb6 : isB s st.p 126
 ·
  refine O_s (S_call (H1 := [_]) hs rfl Tryz.func49 rfl (by kernel_rfl) (accept_f (q := st.p) (b := 126) (by omega) hl hb6) fun v1 G' H' _ hR hG6 hs => ?_)
  obtain ⟨rfl, rfl⟩ := hR
  replace hs : St _ _ [_, _] _ := hs
  refine O_nil (T_kp [0, 6] rfl ?_)
  refine T_condF rfl (T_skip ?_)
  refine T_seq (T_region rfl ?_)
  refine O_m rfl ?_
  obtain ⟨ra, hra, hco⟩ := itemF_atom hr hb6
  have hs := hs.f1
  have hs := hs.f1
  refine O_s (S_callX (H1 := [_, _]) hs rfl Tryz.func99 rfl (by kernel_rfl) (iha f (Nat.le_refl _) _ p v st ra (by first | exact hq | (rw [at_p]; omega) | omega) hl (by first | exact hn | (rw [at_p, at_n]; omega) | omega) hra) (fun v G' w' hX hG hs => RtX_panic rfl ⟨_, hs.done, hco.px hX⟩) fun v2 G' H' _ hR hG13 hs => ?_)
  obtain ⟨a, st1, v1, h13, rfl, rfl⟩ := hR
  replace hs : St _ _ [_, _] _ := hs
  have hgo := hco.go h13
  have hgd := (good_all s f).2.2.2.2.2.2.2.2 st hq a st1 (by rw [hra, h13])
  refine O_a rfl ?_
  refine O_nil (T_kp [0, 3] rfl ?_)
  refine T_block (T_loop (fun m E w => ∃ (f' : Nat) (a : Int) (st1 : PS) (v1 : Value) (G' : Ghost), f' ≤ f ∧ itemL s f' a st1 = some r ∧ st1.p ≤ s.length ∧ st1.nodes.length + 2 * (s.length - st1.p) ≤ 10000000 ∧ m = f' ∧ E = ⟨[], [(0, .pointer (some ⟨p, 0, none⟩)), (3, .int .i64 a)]⟩ ∧ St ⟨w0, G, feet [.blk p 57 [.string ⟨s.toArray⟩, .int .i64 (st.p : Int), v], .row 42 9 v st.nodes.length (st.nodes.flatMap nodeC)]⟩ G' [.blk p 57 [.string ⟨s.toArray⟩, .int .i64 (st1.p : Int), v1], .row 42 9 v1 st1.nodes.length (st1.nodes.flatMap nodeC)] w) (L := [(0, _), (3, _)]) ⟨rfl, rfl, trivial⟩ (⟨f, a, st1, v1, _, Nat.le_refl _, hgo, hgd.2.1, by omega, rfl, rfl, hs⟩) fun m E w hI => ?_)
  obtain ⟨f', a, st1, v1, G', hf', hgo, hq1, hn1, rfl, rfl, hs⟩ := hI
  obtain ⟨f1, rfl⟩ := itemL_pos hgo
  refine T_block (T_seq (T_region rfl ?_))
  refine O_m rfl ?_
  refine O_y hs (Y_build Tryz.zeroValue42 rfl PL42 rfl (cs := [_, _, _, _, _, _, _, _, _]) rfl ?_)
  refine O_s (S_alloc hs Tryz.zeroValue42 (cs := [_, _, _, _, _, _, _, _, _]) rfl fun b4 _ hs => ?_)
  refine O_n (S_stA hs Tryz.sizeOf42 rfl rfl (vs := [_, _, _, _, _, _, _, _, _]) rfl (rfl) (by simp) (cs' := [_, _, _, _, _, _, _, _, _]) rfl fun _ hs => ?_)
  refine O_nil (T_kp [0, 3, 4] rfl ?_)
  refine T_seq (T_block (T_seq (T_region rfl ?_)))
  refine O_m rfl ?_
  cases hb19 : isB s st1.p 42
  ·
   have hs := hs.f1
   refine O_s (S_call (H1 := [_]) hs rfl Tryz.func49 rfl (by kernel_rfl) (accept_f (q := st1.p) (b := 42) (by omega) hl hb19) fun v3 G' H' _ hR hG19 hs => ?_)
   obtain ⟨rfl, rfl⟩ := hR
   replace hs : St _ _ [_, _, _] _ := hs
   refine O_a rfl ?_
   refine O_nil (T_kp [0, 3, 4, 17] rfl ?_)
   refine T_condF rfl (T_seq (T_region rfl ?_))
   refine O_m rfl ?_
   cases hb22 : isB s st1.p 43
   ·
    refine O_s (S_call (H1 := [_]) hs rfl Tryz.func49 rfl (by kernel_rfl) (accept_f (q := st1.p) (b := 43) (by omega) hl hb22) fun v4 G' H' _ hR hG22 hs => ?_)
    obtain ⟨rfl, rfl⟩ := hR
    replace hs : St _ _ [_, _, _] _ := hs
    refine O_a rfl ?_
    refine O_nil (T_kp [0, 3, 4, 20] rfl ?_)
    refine T_condF rfl (T_seq (T_region rfl ?_))
    refine O_m rfl ?_
    cases hb26 : isB s st1.p 63
    ·
     refine O_s (S_call (H1 := [_]) hs rfl Tryz.func49 rfl (by kernel_rfl) (accept_f (q := st1.p) (b := 63) (by omega) hl hb26) fun v5 G' H' _ hR hG26 hs => ?_)
     obtain ⟨rfl, rfl⟩ := hR
     replace hs : St _ _ [_, _, _] _ := hs
     refine O_a rfl ?_
     refine O_nil (T_kp [0, 3, 4, 24] rfl ?_)
     refine T_condF rfl (T_seq (T_region rfl ?_))
     refine O_m rfl ?_
     cases hb30 : isB s st1.p 123
     ·
      refine O_s (S_call (H1 := [_]) hs rfl Tryz.func49 rfl (by kernel_rfl) (accept_f (q := st1.p) (b := 123) (by omega) hl hb30) fun v6 G' H' _ hR hG30 hs => ?_)
      obtain ⟨rfl, rfl⟩ := hR
      replace hs : St _ _ [_, _, _] _ := hs
      refine O_a rfl ?_
      refine O_nil (T_kp [0, 3, 4, 28] rfl ?_)
      refine T_condF rfl (T_seq (T_region rfl ?_))
      refine O_m rfl ?_
      refine O_a rfl ?_
      refine O_nil (T_kp [2] rfl ?_)
      refine T_ret ?_
      have hs := hs.f2
      have hs := hs.f1
      refine RtX_fin (vs := [_]) Tryz.results90 rfl ⟨rfl, trivial⟩ ?_
      try dsimp only [tup]
      exact ⟨_, _, hs.weak hs.le (Ghost.le.refl _) (List.sublist_append_left [_, _] _), a, st1, v1, itemL_stop hgo (suf_6 hb19 hb22 hb26 hb30), rfl, rfl⟩
     ·
      have hlt30 := isB_lt hb30
      refine O_s (S_call (H1 := [_]) hs rfl Tryz.func49 rfl (by kernel_rfl) (accept_t (q := st1.p) (b := 123) (by omega) hl hb30) fun v7 G' H' _ hR hG30 hs => ?_)
      obtain ⟨rfl, rfl⟩ := hR
      replace hs : St _ _ [_, _, _] _ := hs
      refine O_a rfl ?_
      refine O_nil (T_kp [0, 3, 4, 28] rfl ?_)
      refine T_condT rfl (T_region rfl ?_)
      refine O_m rfl ?_
      refine O_s (S_callX (H1 := [_]) hs rfl Tryz.func100 rfl (by kernel_rfl) (bounds_ok (q := (st1.p + 1 : Nat)) (by omega) hl) (fun v G' w' hX hG hs => RtX_panic rfl ⟨_, hs.done, let ⟨e, h1, h2⟩ := hX; ⟨e, itemL_err hgo (suf_5 hb19 hb22 hb26 hb30 h1), h2⟩⟩) fun v8 G' H' _ hR hG33 hs => ?_)
      obtain ⟨mn, mx, q33, h33, hq33, rfl, rfl⟩ := hR
      replace hs : St _ _ [_, _, _] _ := hs
      refine O_m rfl ?_
      refine O_y hs (Y_extract rfl rfl ?_)
      refine O_y hs (Y_extract rfl rfl ?_)
      refine O_y hs (Y_fieldAddr FO42_4 rfl (m := 7) rfl ?_)
      have hs := hs.f1
      refine O_n (S_st hs Tryz.sizeOf3 rfl rfl rfl (by simp) (cs' := [_, _, _, _, _, _, _, _, _]) rfl fun _ hs => ?_)
      refine O_y hs (Y_fieldAddr FO42_5 rfl (m := 8) rfl ?_)
      refine O_n (S_st hs Tryz.sizeOf3 rfl rfl rfl (by simp) (cs' := [_, _, _, _, _, _, _, _, _]) rfl fun _ hs => ?_)
      refine O_nil (T_kp [0, 4] rfl ?_)
      refine T_region rfl ?_
      refine O_m rfl ?_
      refine O_y hs (Y_ldA 0 Tryz.isAgg42 Tryz.sizeOf42 rfl rfl (vs := [_, _, _, _, _, _, _, _, _]) rfl rfl ?_)
      have hs := hs.f2
      have hs := hs.f2
      refine O_s (S_call (H1 := [_, _]) hs rfl Tryz.func50 rfl (by kernel_rfl) (emit_ok (q := q33) (ns := st1.nodes) (n := ⟨8, noC, a, 0, mn, mx⟩) rfl (by omega)) fun v9 G' H' _ hR hG40 hs => ?_)
      obtain ⟨v2, rfl, rfl⟩ := hR
      replace hs : St _ _ [_, _, _] _ := hs
      refine O_a rfl ?_
      have hs := hs.f1
      have hs := hs.f1
      have hsp := sufP_ok (suf_4 hb19 hb22 hb26 hb30 h33)
      refine O_nil ⟨_, ?_, [(0, _), (3, _)], ⟨rfl, rfl, trivial⟩, ⟨f1, st1.last, (st1.at q33).emit ⟨8, noC, a, 0, mn, mx⟩, v2, _, by omega, itemL_go hgo (suf_4 hb19 hb22 hb26 hb30 h33), by rw [emit_p, at_p]; exact hsp.2, by rw [emit_n, emit_p, at_p, at_n]; omega, rfl, rfl, hs.weak hs.le (Ghost.le.refl _) (List.sublist_append_left [_, _] _)⟩⟩
      omega
    ·
     have hlt26 := isB_lt hb26
     refine O_s (S_call (H1 := [_]) hs rfl Tryz.func49 rfl (by kernel_rfl) (accept_t (q := st1.p) (b := 63) (by omega) hl hb26) fun v10 G' H' _ hR hG26 hs => ?_)
     obtain ⟨rfl, rfl⟩ := hR
     replace hs : St _ _ [_, _, _] _ := hs
     refine O_a rfl ?_
     refine O_nil (T_kp [0, 3, 4, 24] rfl ?_)
     refine T_condT rfl (T_region rfl ?_)
     refine O_y hs (Y_fieldAddr FO42_5 rfl (m := 8) rfl ?_)
     have hs := hs.f1
     refine O_n (S_st hs Tryz.sizeOf3 rfl rfl rfl (by simp) (cs' := [_, _, _, _, _, _, _, _, _]) rfl fun _ hs => ?_)
     refine O_nil (T_kp [0, 4] rfl ?_)
     refine T_region rfl ?_
     refine O_m rfl ?_
     refine O_y hs (Y_ldA 0 Tryz.isAgg42 Tryz.sizeOf42 rfl rfl (vs := [_, _, _, _, _, _, _, _, _]) rfl rfl ?_)
     have hs := hs.f2
     have hs := hs.f2
     refine O_s (S_call (H1 := [_, _]) hs rfl Tryz.func50 rfl (by kernel_rfl) (emit_ok (q := (st1.p + 1 : Nat)) (ns := st1.nodes) (n := ⟨8, noC, a, 0, 0, 1⟩) rfl (by omega)) fun v11 G' H' _ hR hG40 hs => ?_)
     obtain ⟨v2, rfl, rfl⟩ := hR
     replace hs : St _ _ [_, _, _] _ := hs
     refine O_a rfl ?_
     have hs := hs.f1
     have hs := hs.f1
     have hsp := sufP_ok (suf_3 hb19 hb22 hb26)
     refine O_nil ⟨_, ?_, [(0, _), (3, _)], ⟨rfl, rfl, trivial⟩, ⟨f1, st1.last, (st1.at (st1.p + 1)).emit ⟨8, noC, a, 0, 0, 1⟩, v2, _, by omega, itemL_go hgo (suf_3 hb19 hb22 hb26), by rw [emit_p, at_p]; exact hsp.2, by rw [emit_n, emit_p, at_p, at_n]; omega, rfl, rfl, hs.weak hs.le (Ghost.le.refl _) (List.sublist_append_left [_, _] _)⟩⟩
     omega
   ·
    have hlt22 := isB_lt hb22
    refine O_s (S_call (H1 := [_]) hs rfl Tryz.func49 rfl (by kernel_rfl) (accept_t (q := st1.p) (b := 43) (by omega) hl hb22) fun v12 G' H' _ hR hG22 hs => ?_)
    obtain ⟨rfl, rfl⟩ := hR
    replace hs : St _ _ [_, _, _] _ := hs
    refine O_a rfl ?_
    refine O_nil (T_kp [0, 3, 4, 20] rfl ?_)
    refine T_condT rfl (T_region rfl ?_)
    refine O_y hs (Y_fieldAddr FO42_4 rfl (m := 7) rfl ?_)
    have hs := hs.f1
    refine O_n (S_st hs Tryz.sizeOf3 rfl rfl rfl (by simp) (cs' := [_, _, _, _, _, _, _, _, _]) rfl fun _ hs => ?_)
    refine O_nil (T_kp [0, 4] rfl ?_)
    refine T_region rfl ?_
    refine O_m rfl ?_
    refine O_y hs (Y_ldA 0 Tryz.isAgg42 Tryz.sizeOf42 rfl rfl (vs := [_, _, _, _, _, _, _, _, _]) rfl rfl ?_)
    have hs := hs.f2
    have hs := hs.f2
    refine O_s (S_call (H1 := [_, _]) hs rfl Tryz.func50 rfl (by kernel_rfl) (emit_ok (q := (st1.p + 1 : Nat)) (ns := st1.nodes) (n := ⟨8, noC, a, 0, 1, -1⟩) rfl (by omega)) fun v13 G' H' _ hR hG40 hs => ?_)
    obtain ⟨v2, rfl, rfl⟩ := hR
    replace hs : St _ _ [_, _, _] _ := hs
    refine O_a rfl ?_
    have hs := hs.f1
    have hs := hs.f1
    have hsp := sufP_ok (suf_2 hb19 hb22)
    refine O_nil ⟨_, ?_, [(0, _), (3, _)], ⟨rfl, rfl, trivial⟩, ⟨f1, st1.last, (st1.at (st1.p + 1)).emit ⟨8, noC, a, 0, 1, -1⟩, v2, _, by omega, itemL_go hgo (suf_2 hb19 hb22), by rw [emit_p, at_p]; exact hsp.2, by rw [emit_n, emit_p, at_p, at_n]; omega, rfl, rfl, hs.weak hs.le (Ghost.le.refl _) (List.sublist_append_left [_, _] _)⟩⟩
    omega
  ·
   have hlt19 := isB_lt hb19
   have hs := hs.f1
   refine O_s (S_call (H1 := [_]) hs rfl Tryz.func49 rfl (by kernel_rfl) (accept_t (q := st1.p) (b := 42) (by omega) hl hb19) fun v14 G' H' _ hR hG19 hs => ?_)
   obtain ⟨rfl, rfl⟩ := hR
   replace hs : St _ _ [_, _, _] _ := hs
   refine O_a rfl ?_
   refine O_nil (T_kp [0, 3, 4, 17] rfl ?_)
   refine T_condT rfl (T_skip ?_)
   refine T_region rfl ?_
   refine O_m rfl ?_
   refine O_y hs (Y_ldA 1 Tryz.isAgg42 Tryz.sizeOf42 rfl rfl (vs := [_, _, _, _, _, _, _, _, _]) rfl rfl ?_)
   have hs := hs.f2
   have hs := hs.f1
   refine O_s (S_call (H1 := [_, _]) hs rfl Tryz.func50 rfl (by kernel_rfl) (emit_ok (q := (st1.p + 1 : Nat)) (ns := st1.nodes) (n := ⟨8, noC, a, 0, 0, -1⟩) rfl (by omega)) fun v15 G' H' _ hR hG40 hs => ?_)
   obtain ⟨v2, rfl, rfl⟩ := hR
   replace hs : St _ _ [_, _, _] _ := hs
   refine O_a rfl ?_
   have hs := hs.f1
   have hs := hs.f1
   have hsp := sufP_ok (suf_1 hb19)
   refine O_nil ⟨_, ?_, [(0, _), (3, _)], ⟨rfl, rfl, trivial⟩, ⟨f1, st1.last, (st1.at (st1.p + 1)).emit ⟨8, noC, a, 0, 0, -1⟩, v2, _, by omega, itemL_go hgo (suf_1 hb19), by rw [emit_p, at_p]; exact hsp.2, by rw [emit_n, emit_p, at_p, at_n]; omega, rfl, rfl, hs.weak hs.le (Ghost.le.refl _) (List.sublist_append_left [_, _] _)⟩⟩
   omega
 ·
  have hlt6 := isB_lt hb6
  refine O_s (S_call (H1 := [_]) hs rfl Tryz.func49 rfl (by kernel_rfl) (accept_t (q := st.p) (b := 126) (by omega) hl hb6) fun v16 G' H' _ hR hG6 hs => ?_)
  obtain ⟨rfl, rfl⟩ := hR
  replace hs : St _ _ [_, _] _ := hs
  refine O_nil (T_kp [0, 6] rfl ?_)
  refine T_condT rfl (T_seq (T_region rfl ?_))
  refine O_m rfl ?_
  refine O_m rfl ?_
  obtain ⟨ra, hra, hco⟩ := itemF_neg hr hb6
  have hs := hs.f1
  have hs := hs.f1
  refine O_s (S_callX (H1 := [_, _]) hs rfl Tryz.func90 rfl (by kernel_rfl) (ihi f (Nat.le_refl _) _ p v (st.at (st.p + 1)) ra (by first | exact hq | (rw [at_p]; omega) | omega) hl (by first | exact hn | (rw [at_p, at_n]; omega) | omega) hra) (fun v G' w' hX hG hs => RtX_panic rfl ⟨_, hs.done, hco.px hX⟩) fun v17 G' H' _ hR hG9 hs => ?_)
  obtain ⟨a, st1, v1, h9, rfl, rfl⟩ := hR
  replace hs : St _ _ [_, _] _ := hs
  have hgo := hco.go h9
  have hgd := (good_all s f).2.2.2.2.2.2.1 (st.at (st.p + 1)) (by rw [at_p]; omega) a st1 (by rw [hra, h9])
  rw [at_p, at_n] at hgd
  refine O_y hs (Y_build Tryz.zeroValue42 rfl PL42 rfl (cs := [_, _, _, _, _, _, _, _, _]) rfl ?_)
  have hs := hs.f1
  have hs := hs.f1
  refine O_s (S_call (H1 := [_, _]) hs rfl Tryz.func50 rfl (by kernel_rfl) (emit_ok (q := st1.p) (ns := st1.nodes) (n := ⟨7, noC, a, 0, 0, 0⟩) rfl (by omega)) fun v18 G' H' _ hR hG11 hs => ?_)
  obtain ⟨v2, rfl, rfl⟩ := hR
  replace hs : St _ _ [_, _] _ := hs
  refine O_a rfl ?_
  refine O_nil (T_kp [2] rfl ?_)
  refine T_ret ?_
  refine RtX_fin (vs := [_]) Tryz.results90 rfl ⟨rfl, trivial⟩ ?_
  try dsimp only [tup]
  exact ⟨_, _, hs, _, _, v2, hgo, rfl, rfl⟩

theorem range_eq {G : Ghost} {lo hi : UInt8} {c : List Nat} (hc : rangeF lo hi = c) : FnOk Tryz.prog 108 [.int .u8 (lo.toNat : Int), .int .u8 (hi.toNat : Int)] G [] fun r _ H' => H' = [] ∧ r = ClsV c := by subst hc; exact range_ok
theorem atom_1 {s : List UInt8} {f : Nat} {st : PS} {r : Except Er (Int × PS)} (hr : atomF s (f + 1) st = some r) (h : isB s st.p 46 = true) : r = .ok (st.last, (st.at (st.p + 1)).emit (leafN 3 (rangeF 0 255))) := by
  simp only [atomF] at hr; rw [if_pos h] at hr; exact (Option.some.inj hr).symm
theorem atom_2 {s : List UInt8} {f : Nat} {st : PS} {r : Except Er (Int × PS)} (hr : atomF s (f + 1) st = some r) (h1 : isB s st.p 46 = false) (h : isB s st.p 33 = true) : r = .ok (st.last, (st.at (st.p + 1)).emit (leafN 1 noC)) := by
  simp only [atomF] at hr; rw [if_neg (by rw [h1]; simp), if_pos h] at hr; exact (Option.some.inj hr).symm
theorem atom_3 {s : List UInt8} {f : Nat} {st : PS} {r : Except Er (Int × PS)} (hr : atomF s (f + 1) st = some r) (h1 : isB s st.p 46 = false) (h2 : isB s st.p 33 = false) (h : isB s st.p 91 = true) : ∃ ra, classP s f (st.p + 1) = some ra ∧ Rest r ra (fun z => r = .ok (st.last, (st.at z.2).emit (leafN 3 z.1))) := by
  simp only [atomF] at hr; rw [if_neg (by rw [h1]; simp), if_neg (by rw [h2]; simp), if_pos h] at hr
  cases hc : classP s f (st.p + 1) with
  | none => rw [hc] at hr; cases hr
  | some ra =>
    rw [hc] at hr
    refine ⟨ra, rfl, ?_⟩
    cases ra with
    | error e => exact .inl ⟨e, rfl, (Option.some.inj hr).symm⟩
    | ok z => exact .inr ⟨z, rfl, (Option.some.inj hr).symm⟩
theorem atom_4 {s : List UInt8} {f : Nat} {st : PS} {r : Except Er (Int × PS)} (hr : atomF s (f + 1) st = some r) (h1 : isB s st.p 46 = false) (h2 : isB s st.p 33 = false) (h3 : isB s st.p 91 = false) (h : isB s st.p 40 = true) (h5 : isB s (st.p + 1) 41 = true) : r = .ok (st.last, (st.at (st.p + 2)).emit (leafN 2 noC)) := by
  simp only [atomF] at hr; rw [if_neg (by rw [h1]; simp), if_neg (by rw [h2]; simp), if_neg (by rw [h3]; simp), if_pos h, if_pos h5] at hr; exact (Option.some.inj hr).symm
theorem atom_5 {s : List UInt8} {f : Nat} {st : PS} {r : Except Er (Int × PS)} (hr : atomF s (f + 1) st = some r) (h1 : isB s st.p 46 = false) (h2 : isB s st.p 33 = false) (h3 : isB s st.p 91 = false) (h : isB s st.p 40 = true) (h5 : isB s (st.p + 1) 41 = false) :
    ∃ ra, altF s f (st.at (st.p + 1)) = some ra ∧ Rest r ra (fun z => (isB s z.2.p 41 = true → r = .ok (z.1, z.2.at (z.2.p + 1))) ∧ (isB s z.2.p 41 = false → r = .error (unexp s z.2.p))) := by
  simp only [atomF] at hr; rw [if_neg (by rw [h1]; simp), if_neg (by rw [h2]; simp), if_neg (by rw [h3]; simp), if_pos h, if_neg (by rw [h5]; simp)] at hr
  obtain ⟨ra, h6, h7⟩ := rest_of (go := fun x st1 => match expP s st1.p 41 with | .error e => some (.error e) | .ok q => some (.ok (x, st1.at q))) hr
  refine ⟨ra, h6, h7.imp id fun ⟨z, h8, h9⟩ => ⟨z, h8, fun h10 => ?_, fun h10 => ?_⟩⟩
  · dsimp only at h9; rw [expP_t h10] at h9; exact (Option.some.inj h9).symm
  · dsimp only at h9; rw [expP_f h10] at h9; exact (Option.some.inj h9).symm
theorem atom_6 {s : List UInt8} {f : Nat} {st : PS} {r : Except Er (Int × PS)} (hr : atomF s (f + 1) st = some r) (h1 : isB s st.p 46 = false) (h2 : isB s st.p 33 = false) (h3 : isB s st.p 91 = false) (h : isB s st.p 40 = false) : Rest r (charP s st.p) (fun z => r = .ok (st.last, (st.at z.2).emit (leafN 3 (rangeF z.1 z.1)))) := by
  simp only [atomF] at hr; rw [if_neg (by rw [h1]; simp), if_neg (by rw [h2]; simp), if_neg (by rw [h3]; simp), if_neg (by rw [h]; simp)] at hr
  cases hc : charP s st.p with
  | error e => rw [hc] at hr; exact .inl ⟨e, rfl, (Option.some.inj hr).symm⟩
  | ok z => rw [hc] at hr; exact .inr ⟨z, rfl, (Option.some.inj hr).symm⟩


set_option maxHeartbeats 1000000 in
set_option maxRecDepth 10000 in
theorem atom_ok {G : Ghost} {p : Nat} {s : List UInt8} {v : Value} {st : PS} {f : Nat} {r : Except Er (Int × PS)} (hq : st.p ≤ s.length) (hl : s.length ≤ 2000000) (hn : st.nodes.length + 2 * (s.length - st.p) ≤ 10000000) (ih : ∀ f', f' ≤ f → PC 33 altF s f') (hr : atomF s (f + 1) st = some r) :
  FnX Tryz.prog 99 [.pointer (some ⟨p, 0, none⟩)] G [.blk p 57 [.string ⟨s.toArray⟩, .int .i64 (st.p : Int), v], .row 42 9 v st.nodes.length (st.nodes.flatMap nodeC)] (fun x _ H' => ∃ a st1 v1, r = .ok (a, st1) ∧ x = .int .i64 a ∧ H' = [.blk p 57 [.string ⟨s.toArray⟩, .int .i64 (st1.p : Int), v1], .row 42 9 v1 st1.nodes.length (st1.nodes.flatMap nodeC)]) (fun x _ => ∃ e, r = .error e ∧ x = errV e) := by
 refine FnX.of_T [(0, _)] Tryz.func99 rfl Tryz.ntmps99 (by simp) rfl fun w0 hs => ?_
 refine T_seq (T_region rfl ?_)
 refine O_a rfl ?_
 refine O_nil (T_kp [0] rfl ?_)
 refine T_seq (T_block (T_seq (T_region rfl ?_)))
 refine O_m rfl ?_
 cases hb7 : isB s st.p 46
 ·
  refine O_s (S_call (H1 := [_]) hs rfl Tryz.func49 rfl (by kernel_rfl) (accept_f (q := st.p) (b := 46) (by omega) hl hb7) fun v1 G' H' _ hR hG7 hs => ?_)
  obtain ⟨rfl, rfl⟩ := hR
  replace hs : St _ _ [_, _] _ := hs
  refine O_a rfl ?_
  refine O_nil (T_kp [0, 5] rfl ?_)
  refine T_condF rfl (T_seq (T_region rfl ?_))
  refine O_m rfl ?_
  cases hb14 : isB s st.p 33
  ·
   refine O_s (S_call (H1 := [_]) hs rfl Tryz.func49 rfl (by kernel_rfl) (accept_f (q := st.p) (b := 33) (by omega) hl hb14) fun v2 G' H' _ hR hG14 hs => ?_)
   obtain ⟨rfl, rfl⟩ := hR
   replace hs : St _ _ [_, _] _ := hs
   refine O_a rfl ?_
   refine O_nil (T_kp [0, 12] rfl ?_)
   refine T_condF rfl (T_seq (T_region rfl ?_))
   refine O_m rfl ?_
   cases hb20 : isB s st.p 91
   ·
    refine O_s (S_call (H1 := [_]) hs rfl Tryz.func49 rfl (by kernel_rfl) (accept_f (q := st.p) (b := 91) (by omega) hl hb20) fun v3 G' H' _ hR hG20 hs => ?_)
    obtain ⟨rfl, rfl⟩ := hR
    replace hs : St _ _ [_, _] _ := hs
    refine O_a rfl ?_
    refine O_nil (T_kp [0, 18] rfl ?_)
    refine T_condF rfl (T_seq (T_region rfl ?_))
    refine O_m rfl ?_
    cases hb28 : isB s st.p 40
    ·
     refine O_s (S_call (H1 := [_]) hs rfl Tryz.func49 rfl (by kernel_rfl) (accept_f (q := st.p) (b := 40) (by omega) hl hb28) fun v4 G' H' _ hR hG28 hs => ?_)
     obtain ⟨rfl, rfl⟩ := hR
     replace hs : St _ _ [_, _] _ := hs
     refine O_a rfl ?_
     refine O_nil (T_kp [0, 26] rfl ?_)
     refine T_condF rfl (T_skip ?_)
     refine T_seq (T_region rfl ?_)
     refine O_m rfl ?_
     have hco := atom_6 hr hb7 hb14 hb20 hb28
     refine O_s (S_callX (H1 := [_]) hs rfl Tryz.func111 rfl (by kernel_rfl) (char_ok (q := st.p) (by omega) hl) (fun v G' w' hX hG hs => RtX_panic rfl ⟨_, hs.done, hco.px hX⟩) fun v5 G' H' _ hR hG40 hs => ?_)
     obtain ⟨y, q40, h40, hq40, rfl, rfl⟩ := hR
     replace hs : St _ _ [_, _] _ := hs
     refine O_a rfl ?_
     refine O_nil (T_kp [0, 4] rfl ?_)
     refine T_seq (T_region rfl ?_)
     refine O_m rfl ?_
     refine O_m rfl ?_
     refine O_m rfl ?_
     have hgo := hco.go h40
     obtain ⟨c0, c1, c2, c3, hce⟩ := four_of (range_ok' y y).1
     dsimp only at hgo
     rw [hce] at hgo
     refine O_s (S_call (H1 := []) hs rfl Tryz.func108 rfl (by kernel_rfl) (range_eq (lo := y) (hi := y) hce) fun v6 G' H' _ hR hG44 hs => ?_)
     obtain ⟨rfl, rfl⟩ := hR
     replace hs : St _ _ [_, _] _ := hs
     refine O_y hs (Y_build Tryz.zeroValue42 rfl PL42 rfl (cs := [_, _, _, _, _, _, _, _, _]) rfl ?_)
     have hs := hs.f1
     have hs := hs.f1
     refine O_s (S_call (H1 := [_, _]) hs rfl Tryz.func50 rfl (by kernel_rfl) (emit_ok (q := q40) (ns := st.nodes) (n := ⟨3, [c0, c1, c2, c3], 0, 0, 0, 0⟩) rfl (by omega)) fun v7 G' H' _ hR hG46 hs => ?_)
     obtain ⟨v1, rfl, rfl⟩ := hR
     replace hs : St _ _ [_, _] _ := hs
     refine O_a rfl ?_
     refine O_nil (T_kp [2] rfl ?_)
     refine T_ret ?_
     refine RtX_fin (vs := [_]) Tryz.results99 rfl ⟨rfl, trivial⟩ ?_
     try dsimp only [tup]
     exact ⟨_, _, hs, _, _, v1, hgo, rfl, rfl⟩
    ·
     have hlt28 := isB_lt hb28
     refine O_s (S_call (H1 := [_]) hs rfl Tryz.func49 rfl (by kernel_rfl) (accept_t (q := st.p) (b := 40) (by omega) hl hb28) fun v8 G' H' _ hR hG28 hs => ?_)
     obtain ⟨rfl, rfl⟩ := hR
     replace hs : St _ _ [_, _] _ := hs
     refine O_a rfl ?_
     refine O_nil (T_kp [0, 26] rfl ?_)
     refine T_condT rfl (T_seq (T_seq (T_region rfl ?_)))
     refine O_m rfl ?_
     cases hb30 : isB s (st.p + 1 : Nat) 41
     ·
      refine O_s (S_call (H1 := [_]) hs rfl Tryz.func49 rfl (by kernel_rfl) (accept_f (q := (st.p + 1 : Nat)) (b := 41) (by omega) hl hb30) fun v9 G' H' _ hR hG30 hs => ?_)
      obtain ⟨rfl, rfl⟩ := hR
      replace hs : St _ _ [_, _] _ := hs
      refine O_nil (T_kp [0, 30] rfl ?_)
      refine T_condF rfl (T_skip ?_)
      refine T_seq (T_region rfl ?_)
      refine O_m rfl ?_
      obtain ⟨ra, hra, hco⟩ := atom_5 hr hb7 hb14 hb20 hb28 hb30
      have hs := hs.f1
      have hs := hs.f1
      refine O_s (S_callX (H1 := [_, _]) hs rfl Tryz.func33 rfl (by kernel_rfl) (ih f (Nat.le_refl _) _ p v (st.at (st.p + 1)) ra (by first | exact hq | (rw [at_p]; omega) | omega) hl (by first | exact hn | (rw [at_p, at_n]; omega) | omega) hra) (fun v G' w' hX hG hs => RtX_panic rfl ⟨_, hs.done, hco.px hX⟩) fun v10 G' H' _ hR hG35 hs => ?_)
      obtain ⟨a, st1, v1, h35, rfl, rfl⟩ := hR
      replace hs : St _ _ [_, _] _ := hs
      have hgo := hco.go h35
      have hgd := (good_all s f).1 (st.at (st.p + 1)) (by rw [at_p]; omega) a st1 (by rw [hra, h35])
      rw [at_p, at_n] at hgd
      refine O_a rfl ?_
      refine O_nil (T_kp [0, 3] rfl ?_)
      refine T_seq (T_region rfl ?_)
      refine O_m rfl ?_
      refine O_s (S_callX (H1 := [_]) hs rfl Tryz.func110 rfl (by kernel_rfl) (expect_ok (q := st1.p) (b := 41) (by omega) hl) (fun v G' w' hX hG hs => RtX_panic rfl ⟨_, hs.done, ⟨_, hgo.2 hX.1, hX.2⟩⟩) fun v11 G' H' _ hR hG37 hs => ?_)
      obtain ⟨he37, rfl⟩ := hR
      replace hs : St _ _ [_, _] _ := hs
      refine O_nil (T_kp [3] rfl ?_)
      refine T_seq (T_region rfl ?_)
      refine O_m rfl ?_
      refine O_a rfl ?_
      refine O_nil (T_kp [2] rfl ?_)
      refine T_ret ?_
      refine RtX_fin (vs := [_]) Tryz.results99 rfl ⟨rfl, trivial⟩ ?_
      try dsimp only [tup]
      exact ⟨_, _, hs, _, _, v1, hgo.1 he37, rfl, rfl⟩
     ·
      have hlt30 := isB_lt hb30
      refine O_s (S_call (H1 := [_]) hs rfl Tryz.func49 rfl (by kernel_rfl) (accept_t (q := (st.p + 1 : Nat)) (b := 41) (by omega) hl hb30) fun v12 G' H' _ hR hG30 hs => ?_)
      obtain ⟨rfl, rfl⟩ := hR
      replace hs : St _ _ [_, _] _ := hs
      refine O_nil (T_kp [0, 30] rfl ?_)
      refine T_condT rfl (T_seq (T_region rfl ?_))
      refine O_m rfl ?_
      refine O_y hs (Y_build Tryz.zeroValue42 rfl PL42 rfl (cs := [_, _, _, _, _, _, _, _, _]) rfl ?_)
      have hs := hs.f1
      have hs := hs.f1
      refine O_s (S_call (H1 := [_, _]) hs rfl Tryz.func50 rfl (by kernel_rfl) (emit_ok (q := ((st.p + 1 : Nat) + 1 : Nat)) (ns := st.nodes) (n := leafN 2 noC) rfl (by omega)) fun v13 G' H' _ hR hG33 hs => ?_)
      obtain ⟨v1, rfl, rfl⟩ := hR
      replace hs : St _ _ [_, _] _ := hs
      refine O_a rfl ?_
      refine O_nil (T_kp [2] rfl ?_)
      refine T_ret ?_
      refine RtX_fin (vs := [_]) Tryz.results99 rfl ⟨rfl, trivial⟩ ?_
      try dsimp only [tup]
      exact ⟨_, _, hs, _, _, v1, atom_4 hr hb7 hb14 hb20 hb28 hb30, rfl, rfl⟩
   ·
    have hlt20 := isB_lt hb20
    refine O_s (S_call (H1 := [_]) hs rfl Tryz.func49 rfl (by kernel_rfl) (accept_t (q := st.p) (b := 91) (by omega) hl hb20) fun v14 G' H' _ hR hG20 hs => ?_)
    obtain ⟨rfl, rfl⟩ := hR
    replace hs : St _ _ [_, _] _ := hs
    refine O_a rfl ?_
    refine O_nil (T_kp [0, 18] rfl ?_)
    refine T_condT rfl (T_seq (T_region rfl ?_))
    refine O_m rfl ?_
    refine O_m rfl ?_
    obtain ⟨ra, hra, hco⟩ := atom_3 hr hb7 hb14 hb20
    refine O_s (S_callX (H1 := [_]) hs rfl Tryz.func109 rfl (by kernel_rfl) (class_ok (q := (st.p + 1 : Nat)) (by omega) hl hra) (fun v G' w' hX hG hs => RtX_panic rfl ⟨_, hs.done, hco.px hX⟩) fun v15 G' H' _ hR hG23 hs => ?_)
    obtain ⟨c, q23, h23, hq23, rfl, hcok, rfl⟩ := hR
    replace hs : St _ _ [_, _] _ := hs
    have hgo := hco.go h23
    obtain ⟨c0, c1, c2, c3, rfl⟩ := four_of hcok.1
    replace hs : St _ _ [_, _] _ := hs
    refine O_y hs (Y_build Tryz.zeroValue42 rfl PL42 rfl (cs := [_, _, _, _, _, _, _, _, _]) rfl ?_)
    have hs := hs.f1
    have hs := hs.f1
    refine O_s (S_call (H1 := [_, _]) hs rfl Tryz.func50 rfl (by kernel_rfl) (emit_ok (q := q23) (ns := st.nodes) (n := ⟨3, [c0, c1, c2, c3], 0, 0, 0, 0⟩) rfl (by omega)) fun v16 G' H' _ hR hG25 hs => ?_)
    obtain ⟨v1, rfl, rfl⟩ := hR
    replace hs : St _ _ [_, _] _ := hs
    refine O_a rfl ?_
    refine O_nil (T_kp [2] rfl ?_)
    refine T_ret ?_
    refine RtX_fin (vs := [_]) Tryz.results99 rfl ⟨rfl, trivial⟩ ?_
    try dsimp only [tup]
    exact ⟨_, _, hs, _, _, v1, hgo, rfl, rfl⟩
  ·
   have hlt14 := isB_lt hb14
   refine O_s (S_call (H1 := [_]) hs rfl Tryz.func49 rfl (by kernel_rfl) (accept_t (q := st.p) (b := 33) (by omega) hl hb14) fun v17 G' H' _ hR hG14 hs => ?_)
   obtain ⟨rfl, rfl⟩ := hR
   replace hs : St _ _ [_, _] _ := hs
   refine O_a rfl ?_
   refine O_nil (T_kp [0, 12] rfl ?_)
   refine T_condT rfl (T_seq (T_region rfl ?_))
   refine O_m rfl ?_
   refine O_y hs (Y_build Tryz.zeroValue42 rfl PL42 rfl (cs := [_, _, _, _, _, _, _, _, _]) rfl ?_)
   have hs := hs.f1
   have hs := hs.f1
   refine O_s (S_call (H1 := [_, _]) hs rfl Tryz.func50 rfl (by kernel_rfl) (emit_ok (q := (st.p + 1 : Nat)) (ns := st.nodes) (n := leafN 1 noC) rfl (by omega)) fun v18 G' H' _ hR hG17 hs => ?_)
   obtain ⟨v1, rfl, rfl⟩ := hR
   replace hs : St _ _ [_, _] _ := hs
   refine O_a rfl ?_
   refine O_nil (T_kp [2] rfl ?_)
   refine T_ret ?_
   refine RtX_fin (vs := [_]) Tryz.results99 rfl ⟨rfl, trivial⟩ ?_
   try dsimp only [tup]
   exact ⟨_, _, hs, _, _, v1, atom_2 hr hb7 hb14, rfl, rfl⟩
 ·
  have hlt7 := isB_lt hb7
  refine O_s (S_call (H1 := [_]) hs rfl Tryz.func49 rfl (by kernel_rfl) (accept_t (q := st.p) (b := 46) (by omega) hl hb7) fun v19 G' H' _ hR hG7 hs => ?_)
  obtain ⟨rfl, rfl⟩ := hR
  replace hs : St _ _ [_, _] _ := hs
  refine O_a rfl ?_
  refine O_nil (T_kp [0, 5] rfl ?_)
  refine T_condT rfl (T_seq (T_region rfl ?_))
  refine O_m rfl ?_
  obtain ⟨c0, c1, c2, c3, hce⟩ := four_of (range_ok' 0 255).1
  refine O_s (S_call (H1 := []) hs rfl Tryz.func108 rfl (by kernel_rfl) (range_eq (lo := 0) (hi := 255) hce) fun v20 G' H' _ hR hG9 hs => ?_)
  obtain ⟨rfl, rfl⟩ := hR
  replace hs : St _ _ [_, _] _ := hs
  refine O_y hs (Y_build Tryz.zeroValue42 rfl PL42 rfl (cs := [_, _, _, _, _, _, _, _, _]) rfl ?_)
  have hs := hs.f1
  have hs := hs.f1
  refine O_s (S_call (H1 := [_, _]) hs rfl Tryz.func50 rfl (by kernel_rfl) (emit_ok (q := (st.p + 1 : Nat)) (ns := st.nodes) (n := ⟨3, [c0, c1, c2, c3], 0, 0, 0, 0⟩) rfl (by omega)) fun v21 G' H' _ hR hG11 hs => ?_)
  obtain ⟨v1, rfl, rfl⟩ := hR
  replace hs : St _ _ [_, _] _ := hs
  refine O_a rfl ?_
  refine O_nil (T_kp [2] rfl ?_)
  refine T_ret ?_
  refine RtX_fin (vs := [_]) Tryz.results99 rfl ⟨rfl, trivial⟩ ?_
  try dsimp only [tup]
  exact ⟨_, _, hs, _, _, v1, by rw [atom_1 hr hb7, hce]; rfl, rfl, rfl⟩

set_option maxHeartbeats 400000 in
set_option maxRecDepth 10000 in
theorem rest_nil {c : Ctx} {G : Ghost} {w : World} {p2 p3 p4 : Nat} {H : List Res} (hs : St c G H w) :
  T ⟨Tryz.prog, 21, none⟩ (restOf Tryz.f32) (Rt Tryz.prog 21 Tryz.f32 fun _ w' => w' = w) ⟨[], [(3, .nilIface), (6, .nilIface), (0, .pointer (some ⟨p2, 0, none⟩)), (1, .pointer (some ⟨p3, 0, none⟩)), (2, .pointer (some ⟨p4, 0, none⟩))]⟩ w := by
 refine T_seq (T_region rfl ?_)
 refine O_m rfl ?_
 refine O_y hs (Y_ifaceNeF Tryz.underlying20 rfl ?_)
 refine O_nil (T_kp [0, 1, 2, 3, 8] rfl ?_)
 refine T_condF rfl (T_skip ?_)
 try dsimp only [Ex.sq, Ex.lp, Ex.bk]
 try rw [show Nat.beq _ _ = true from Nat.beq_refl _, cond_true]
 refine Rt_finN (vs := []) Tryz.results32 rfl trivial ?_
 try dsimp only [tup]
 try rfl

set_option maxHeartbeats 400000 in
set_option maxRecDepth 10000 in
theorem rest_pan {c : Ctx} {G : Ghost} {w : World} {p2 p3 p4 : Nat} {e : Er} {a2 a3 a4 : Value} (hs : St c G [.blk p2 24 [a2], .blk p3 3 [a3], .blk p4 25 [a4]] w) :
  T ⟨Tryz.prog, 21, none⟩ (restOf Tryz.f32) (Rt Tryz.prog 21 Tryz.f32 fun _ w' => ∃ G', St c G' [.blk p2 24 [.slice none 0 0], .blk p3 3 [.int .i64 (e.2 : Int)], .blk p4 25 [.int .i64 e.1]] w') ⟨[], [(3, .iface 53 (.agg #[.int .i64 e.1, .int .i64 (e.2 : Int)])), (6, .iface 53 (.agg #[.int .i64 e.1, .int .i64 (e.2 : Int)])), (0, .pointer (some ⟨p2, 0, none⟩)), (1, .pointer (some ⟨p3, 0, none⟩)), (2, .pointer (some ⟨p4, 0, none⟩))]⟩ w := by
 refine T_seq (T_region rfl ?_)
 refine O_m rfl ?_
 refine O_y hs (Y_ifaceNeT Tryz.underlying20 rfl ?_)
 refine O_nil (T_kp [0, 1, 2, 3, 8] rfl ?_)
 refine T_condT rfl (T_seq (T_region rfl ?_))
 refine O_m rfl ?_
 refine O_y hs (Y_assertT Tryz.underlying53 (fun _ h => by cases h) rfl ?_)
 refine O_m rfl ?_
 refine O_y hs (Y_extract rfl rfl ?_)
 refine O_y hs (Y_extract rfl rfl ?_)
 refine O_s (S_alloc hs Tryz.zeroValue53 (cs := [_, _]) rfl fun b4 _ hs => ?_)
 refine O_n (S_stA hs Tryz.sizeOf53 rfl rfl (vs := [_, _]) rfl (rfl) (by simp) (cs' := [_, _]) rfl fun _ hs => ?_)
 refine O_a rfl ?_
 refine O_nil (T_kp [0, 1, 2, 3, 4, 5] rfl ?_)
 refine T_seq (T_seq (T_region rfl ?_))
 refine O_m rfl ?_
 refine O_y hs (Y_not rfl ?_)
 refine O_nil (T_kp [0, 1, 2, 3, 4, 15] rfl ?_)
 refine T_condF rfl (T_skip ?_)
 have hs := hs.f3
 have hs := hs.f3
 have hs := hs.f3
 have hsW := hs.drop.drop.drop
 refine T_drawS [0, 1, 2, 3, 4, 5, 6] hsW (by kernel_rfl) ?_
 replace hs := hs.drew
 replace hsW := hsW.drew
 refine A_take 0 rfl (by kernel_rfl) rfl hsW (Y_fieldAddr FO53_1 rfl (m := 1) rfl ?_)
 refine A_take 1 rfl (by kernel_rfl) rfl hsW (Y_ld 0 Tryz.isAgg3 rfl rfl rfl ?_)
 refine A_take 2 rfl (by kernel_rfl) rfl hsW (Y_fieldAddr FO53_0 rfl (m := 0) rfl ?_)
 refine A_take 3 rfl (by kernel_rfl) rfl hsW (Y_ld 0 Tryz.isAgg25 rfl rfl rfl ?_)
 have hle := hs.le
 refine A_onlyN 4 rfl (by kernel_rfl) rfl (S_st hs Tryz.sizeOf24 rfl rfl rfl (by simp) (cs' := [_]) rfl fun _ hs => ?_)
 have hs := hs.f2
 have hs := hs.f2
 have hs := hs.f2
 have hsW := hs.drop.drop.drop
 refine A_moreS hsW hle (Ghost.le.refl _) (List.Sublist.refl _) ?_
 have hs := hs.f1
 have hle := hs.le
 refine A_onlyN 5 rfl (by kernel_rfl) rfl (S_st hs Tryz.sizeOf3 rfl rfl rfl (by simp) (cs' := [_]) rfl fun _ hs => ?_)
 have hs := hs.f2
 have hs := hs.f1
 have hs := hs.f2
 have hsW := hs.drop.drop.drop
 refine A_moreS hsW hle (Ghost.le.refl _) (List.Sublist.refl _) ?_
 have hs := hs.f2
 have hle := hs.le
 refine A_onlyN 6 rfl (by kernel_rfl) rfl (S_st hs Tryz.sizeOf25 rfl rfl rfl (by simp) (cs' := [_]) rfl fun _ hs => ?_)
 have hs := hs.f2
 have hs := hs.f2
 have hsW := hs.drop.drop.drop
 refine A_moreS hsW hle (Ghost.le.refl _) (List.Sublist.refl _) ?_
 have hs := hs.f2
 have hs := hs.f2
 have hs := hs.f2
 refine A_done (by kernel_rfl) (Rt_finN (vs := []) Tryz.results32 rfl trivial ?_)
 try dsimp only [tup]
 exact ⟨_, hs.weak hs.le (Ghost.le.refl _) (List.sublist_append_left [_, _, _] _)⟩

theorem all_ok (s : List UInt8) : ∀ f, PC 33 altF s f ∧ PC 48 andF s f ∧ PC 69 catF s f ∧ PC 90 itemF s f ∧ PC 99 atomF s f := by
  intro f
  induction f using Nat.strongRecOn with
  | ind f ih =>
    cases f with
    | zero => refine ⟨?_, ?_, ?_, ?_, ?_⟩ <;> (intro G p v st r hq hl hn hr; simp only [altF, andF, catF, itemF, atomF] at hr; cases hr)
    | succ f =>
      exact ⟨fun G p v st r hq hl hn hr => alts_ok hq hl hn (fun f' hf => (ih f' (by omega)).2.1) hr, fun G p v st r hq hl hn hr => ints_ok hq hl hn (fun f' hf => (ih f' (by omega)).2.2.1) hr,
        fun G p v st r hq hl hn hr => seq_ok hq hl hn (fun f' hf => (ih f' (by omega)).2.2.2.1) hr, fun G p v st r hq hl hn hr => item_ok hq hl hn (fun f' hf => (ih f' (by omega)).2.2.2.1) (fun f' hf => (ih f' (by omega)).2.2.2.2) hr,
        fun G p v st r hq hl hn hr => atom_ok hq hl hn (fun f' hf => (ih f' (by omega)).1) hr⟩
def resN : Except Er (List NodeV) → List NodeV | .error _ => [] | .ok l => l
def resA : Except Er (List NodeV) → Int | .error e => (e.2 : Int) | .ok _ => 0
def resE : Except Er (List NodeV) → Int | .error e => e.1 | .ok _ => 0
def ParseR (G : Ghost) (v : Value) (r0 : Except Er (List NodeV)) : Prop := ∃ u, Rx G u (resN r0) ∧ v = .tuple #[u, .int .i64 (resA r0), .int .i64 (resE r0)]
theorem nodeC_len {n : NodeV} (h : ClsOk n.c) : (nodeC n).length = 9 := by simp [nodeC, h.1]
theorem all2_nodes {G : Ghost} : ∀ {ns : List NodeV}, (∀ n ∈ ns, ClsOk n.c) → All2 (NodeR G) (ns.map nodeC) ns
  | [], _ => trivial
  | n :: t, h => ⟨⟨rfl, h n (by simp)⟩, all2_nodes fun m hm => h m (by simp [hm])⟩
theorem rx_of {G : Ghost} {v : Value} {ns : List NodeV} (h : Sl G v 9 ns.length (ns.flatMap nodeC)) (hc : ∀ n ∈ ns, ClsOk n.c) : Rx G v ns :=
  LstR.ofSl h (List.flatMap_def ..) rfl (all2_nodes hc) (fun c hm => by obtain ⟨n, hn, rfl⟩ := List.mem_map.1 hm; exact nodeC_len (hc n hn))
theorem parse_big {s : List UInt8} {f : Nat} {r0 : Except Er (List NodeV)} (hr : parseP s f = some r0) (h : 4000 < s.length) : r0 = .error (2, 0) := by
  unfold parseP at hr; rw [if_pos h] at hr; exact (Option.some.inj hr).symm
theorem parse_open {s : List UInt8} {f : Nat} {r0 : Except Er (List NodeV)} (hr : parseP s f = some r0) (h : ¬ 4000 < s.length) : ∃ ra, altF s f ⟨0, []⟩ = some ra ∧ r0 = endP s ra := by
  unfold parseP at hr; rw [if_neg h] at hr
  cases ha : altF s f ⟨0, []⟩ with
  | none => rw [ha] at hr; cases hr
  | some ra => rw [ha] at hr; exact ⟨ra, rfl, (Option.some.inj hr).symm⟩
theorem end_1 {s : List UInt8} {a : Int} {st : PS} (h : st.p < s.length) : endP s (.ok (a, st)) = .error (unexp s st.p) := if_pos h
theorem end_2 {s : List UInt8} {a : Int} {st : PS} (h1 : ¬ st.p < s.length) (h : 200 < st.nodes.length) : endP s (.ok (a, st)) = .error (2, s.length) := by unfold endP; dsimp only; rw [if_neg h1, if_pos h]
theorem end_3 {s : List UInt8} {a : Int} {st : PS} (h1 : ¬ st.p < s.length) (h : ¬ 200 < st.nodes.length) : endP s (.ok (a, st)) = .ok st.nodes := by unfold endP; dsimp only; rw [if_neg h1, if_neg h]
theorem RtD_ret0 {P : Program} {N : Nat} {E : Env} {w : World} {fn : Func} {R : Value → World → Prop} {v : Value} (hd : E.d = []) (hres : ∀ a, Ag N E a → (results fn a.tmps).run P w = .ok v w) (hR : R v w) : RtD P N fn R .ret E w := by
  intro a hA; rw [hd]; exact ⟨v, hres a hA, v, rfl, hR⟩


theorem parse_pan {E : Env} {w w0 : World} {G G' : Ghost} {b2 b3 b4 : Nat} {a2 a3 a4 : Value} {r0 : Except Er (List NodeV)} {x : Value} (hd : E.d = [{ target := .fn (.func 32) [.pointer (some ⟨b2, 0, none⟩), .pointer (some ⟨b3, 0, none⟩), .pointer (some ⟨b4, 0, none⟩)].toArray, args := #[] }]) (h2 : eget E.l 2 = some (.pointer (some ⟨b2, 0, none⟩))) (h3 : eget E.l 3 = some (.pointer (some ⟨b3, 0, none⟩))) (h4 : eget E.l 4 = some (.pointer (some ⟨b4, 0, none⟩)))
    (hs : St ⟨w0, G, feet []⟩ G' [.blk b2 24 [a2], .blk b3 3 [a3], .blk b4 25 [a4]] w) (hX : ∃ e, r0 = .error e ∧ x = errV e) : RtD Tryz.prog 36 Tryz.f13 (fun v w' => ∃ G' H', St ⟨w0, G, feet []⟩ G' H' w' ∧ H' = [] ∧ ParseR G' v r0) (.panic [{ v := x, recovered := false }]) E w := by
  obtain ⟨e, rfl, rfl⟩ := hX
  refine RtD_panic hd Tryz.func32 rfl (by kernel_rfl) ((callsD_rec Tryz.func32 (c := restOf Tryz.f32) rfl Tryz.ntmps32 (by simp) (by decide) (by decide) (.inr ⟨_, rfl, rfl, rfl⟩) (rest_pan hs)).mono ?_)
  rintro e' u' w' ⟨hy, hu, G2, hs2⟩
  exact ⟨hy, hu, _, (results_run (vs := [_, _, _]) Tryz.results13 ⟨ResOk_cell1 0 hs2 Tryz.isAgg24 h2 rfl, ResOk_cell1 1 hs2 Tryz.isAgg3 h3 rfl, ResOk_cell1 2 hs2 Tryz.isAgg25 h4 rfl, trivial⟩), _, _, hs2.done, rfl, _, LstR.nil, rfl⟩
theorem parse_ret {E : Env} {w w0 : World} {G G' : Ghost} {b2 b3 b4 : Nat} {a2 : Value} {i3 i4 : Int} {r0 : Except Er (List NodeV)} (hd : E.d = [{ target := .fn (.func 32) [.pointer (some ⟨b2, 0, none⟩), .pointer (some ⟨b3, 0, none⟩), .pointer (some ⟨b4, 0, none⟩)].toArray, args := #[] }]) (h2 : eget E.l 2 = some (.pointer (some ⟨b2, 0, none⟩))) (h3 : eget E.l 3 = some (.pointer (some ⟨b3, 0, none⟩))) (h4 : eget E.l 4 = some (.pointer (some ⟨b4, 0, none⟩)))
    (hs : St ⟨w0, G, feet []⟩ G' [.blk b2 24 [a2], .blk b3 3 [.int .i64 i3], .blk b4 25 [.int .i64 i4]] w) (hR : Rx G' a2 (resN r0) ∧ i3 = resA r0 ∧ i4 = resE r0) : RtD Tryz.prog 36 Tryz.f13 (fun v w' => ∃ G' H', St ⟨w0, G, feet []⟩ G' H' w' ∧ H' = [] ∧ ParseR G' v r0) .ret E w := by
  obtain ⟨hR, rfl, rfl⟩ := hR
  exact RtD_ret hd Tryz.func32 rfl (by kernel_rfl) (callsD_rec Tryz.func32 (c := restOf Tryz.f32) rfl Tryz.ntmps32 (by simp) (by decide) (by decide) (.inl ⟨rfl, rfl, rfl⟩) (rest_nil hs)) (results_run (vs := [_, _, _]) Tryz.results13 ⟨ResOk_cell1 0 hs Tryz.isAgg24 h2 rfl, ResOk_cell1 1 hs Tryz.isAgg3 h3 rfl, ResOk_cell1 2 hs Tryz.isAgg25 h4 rfl, trivial⟩) ⟨_, _, hs.done, rfl, _, hR, rfl⟩
theorem parse_ret0 {E : Env} {w w0 : World} {G G' : Ghost} {b2 b3 b4 : Nat} {a2 : Value} {i3 i4 : Int} {r0 : Except Er (List NodeV)} (hd : E.d = []) (h2 : eget E.l 2 = some (.pointer (some ⟨b2, 0, none⟩))) (h3 : eget E.l 3 = some (.pointer (some ⟨b3, 0, none⟩))) (h4 : eget E.l 4 = some (.pointer (some ⟨b4, 0, none⟩)))
    (hs : St ⟨w0, G, feet []⟩ G' [.blk b2 24 [a2], .blk b3 3 [.int .i64 i3], .blk b4 25 [.int .i64 i4]] w) (hR : Rx G' a2 (resN r0) ∧ i3 = resA r0 ∧ i4 = resE r0) : RtD Tryz.prog 36 Tryz.f13 (fun v w' => ∃ G' H', St ⟨w0, G, feet []⟩ G' H' w' ∧ H' = [] ∧ ParseR G' v r0) .ret E w := by
  obtain ⟨hR, rfl, rfl⟩ := hR
  exact RtD_ret0 hd (results_run (vs := [_, _, _]) Tryz.results13 ⟨ResOk_cell1 0 hs Tryz.isAgg24 h2 rfl, ResOk_cell1 1 hs Tryz.isAgg3 h3 rfl, ResOk_cell1 2 hs Tryz.isAgg25 h4 rfl, trivial⟩) ⟨_, _, hs.done, rfl, _, hR, rfl⟩


set_option maxHeartbeats 1000000 in
set_option maxRecDepth 10000 in
theorem parse_ok {G : Ghost} {s : List UInt8} {f : Nat} {r0 : Except Er (List NodeV)} (hl : s.length ≤ 2000000) (hr : parseP s f = some r0) :
  FnOk Tryz.prog 13 [.string ⟨s.toArray⟩] G [] fun r G' H' => H' = [] ∧ ParseR G' r r0 := by
 have hsz := bsz s
 refine FnOk.of_TD [(0, _)] Tryz.func13 rfl Tryz.ntmps13 (by simp) rfl fun w0 hs => ?_
 refine T_seq (T_region rfl ?_)
 refine O_s (S_alloc hs Tryz.zeroValue24 (cs := [_]) rfl fun b2 _ hs => ?_)
 refine O_s (S_alloc hs Tryz.zeroValue3 (cs := [_]) rfl fun b3 _ hs => ?_)
 refine O_s (S_alloc hs Tryz.zeroValue25 (cs := [_]) rfl fun b4 _ hs => ?_)
 refine O_nil (T_kp [0, 2, 3, 4] rfl ?_)
 refine T_seq (T_seq (T_region rfl ?_))
 refine O_m rfl ?_
 refine O_y hs (Y_lenS Tryz.underlying9 rfl ?_)
 refine O_y hs (Y_cmpS rfl rfl rfl (fun h8 => ?_) (fun h8 => ?_))
 ·
  dsimp only [cmpP] at h8
  refine O_nil (T_kp [0, 2, 3, 4, 8] rfl ?_)
  refine T_condT rfl (T_seq (T_region rfl ?_))
  have hs := hs.f2
  refine O_n (S_st hs Tryz.sizeOf24 rfl rfl rfl (by simp) (cs' := [_]) rfl fun _ hs => ?_)
  have hs := hs.f2
  refine O_n (S_st hs Tryz.sizeOf3 rfl rfl rfl (by simp) (cs' := [_]) rfl fun _ hs => ?_)
  have hs := hs.f2
  refine O_n (S_st hs Tryz.sizeOf25 rfl rfl rfl (by simp) (cs' := [_]) rfl fun _ hs => ?_)
  refine O_nil (T_kp [2, 3, 4] rfl ?_)
  refine T_ret ?_
  have hs := hs.f1
  have hs := hs.f2
  exact parse_ret0 rfl rfl rfl rfl hs (by rw [parse_big hr (by omega)]; exact ⟨LstR.nil, rfl, rfl⟩)
 ·
  dsimp only [cmpP] at h8
  refine O_nil (T_kp [0, 2, 3, 4, 8] rfl ?_)
  refine T_condF rfl (T_skip ?_)
  refine T_seq (T_region rfl ?_)
  refine O_y hs (Y_makeFunc (vs := [_, _, _]) rfl ?_)
  refine O_defer (args := []) (lb := [_, _, _]) rfl rfl rfl ?_
  refine O_nil (T_kp [0, 2, 3, 4] rfl ?_)
  refine T_seq (T_region rfl ?_)
  refine O_m rfl ?_
  refine O_y hs (Y_build Tryz.zeroValue57 rfl PL57 rfl (cs := [_, _, _]) rfl ?_)
  refine O_s (S_box hs rfl (cs := [_, _, _]) rfl fun b12 _ hs => ?_)
  refine O_a rfl ?_
  refine O_nil (T_kp [0, 2, 3, 4, 5] rfl ?_)
  refine T_seq (T_region rfl ?_)
  refine O_m rfl ?_
  have hs := hs.nilRow 42 9
  have hs := hs.f2
  have hs := hs.f3
  have hs := hs.f4
  have hs := hs.f3
  have hs := hs.f4
  obtain ⟨ra, hra, hr0⟩ := parse_open hr (by omega)
  have hs := hs.f1
  have hs := hs.f1
  refine O_s (S_callX (H1 := [_, _]) hs rfl Tryz.func33 rfl (by kernel_rfl) ((all_ok s f).1 _ _ _ ⟨0, []⟩ ra (Nat.zero_le _) hl (by show 0 + _ ≤ _; omega) hra) (fun v G' w' hX hG hs => parse_pan rfl rfl rfl rfl hs (by obtain ⟨e, h1, h2⟩ := hX; exact ⟨e, by rw [hr0, h1]; rfl, h2⟩)) fun v1 G' H' _ hR hG14 hs => ?_)
  obtain ⟨a, st1, v1, h14, rfl, rfl⟩ := hR
  replace hs : St _ _ [_, _, _, _, _] _ := hs
  subst h14
  have hgd := (good_all s f).1 ⟨0, []⟩ (Nat.zero_le _) a st1 hra
  refine O_nil (T_kp [0, 2, 3, 4, 5] rfl ?_)
  refine T_seq (T_seq (T_region rfl ?_))
  refine O_m rfl ?_
  refine O_y hs (Y_nil rfl ?_)
  refine O_y hs (Y_fieldAddr FO57_1 rfl (m := 1) rfl ?_)
  refine O_y hs (Y_ld 0 Tryz.isAgg3 rfl rfl rfl ?_)
  refine O_m rfl ?_
  refine O_y hs (Y_lenS Tryz.underlying9 rfl ?_)
  refine O_y hs (Y_cmpS rfl rfl rfl (fun h21 => ?_) (fun h21 => ?_))
  ·
   dsimp only [cmpP] at h21
   refine O_nil (T_kp [0, 2, 3, 4, 5, 21] rfl ?_)
   refine T_condT rfl (T_region rfl ?_)
   refine O_m rfl ?_
   have hs := hs.f4
   have hs := hs.f4
   have hs := hs.f4
   have hs := hs.f4
   have hs := hs.f4
   refine O_s (S_callX (H1 := [_]) hs rfl Tryz.func34 rfl (by kernel_rfl) (unexp_ok (q := st1.p) (by omega) hl) (fun v G' w' hX hG hs => parse_pan rfl rfl rfl rfl hs.drop ⟨_, hr0.trans (end_1 (by omega)), hX⟩) fun v2 G' H' _ hR hG23 hs => ?_)
   exact hR.elim
  ·
   dsimp only [cmpP] at h21
   refine O_nil (T_kp [0, 2, 3, 4, 5, 21] rfl ?_)
   refine T_condF rfl (T_skip ?_)
   refine T_seq (T_seq (T_region rfl ?_))
   refine O_m rfl ?_
   refine O_y hs (Y_nil rfl ?_)
   refine O_y hs (Y_fieldAddr FO57_2 rfl (m := 2) rfl ?_)
   refine O_y hs (Y_ld 0 Tryz.isAgg24 rfl rfl rfl ?_)
   refine O_y hs (Y_lenOwn 1 rfl Tryz.underlying24 rfl hs ?_)
   refine O_y hs (Y_cmpS rfl rfl rfl (fun h29 => ?_) (fun h29 => ?_))
   ·
    dsimp only [cmpP] at h29
    refine O_nil (T_kp [0, 2, 3, 4, 5, 29] rfl ?_)
    refine T_condT rfl (T_seq (T_region rfl ?_))
    refine O_m rfl ?_
    refine O_y hs (Y_lenS Tryz.underlying9 rfl ?_)
    have hs := hs.f2
    refine O_n (S_st hs Tryz.sizeOf24 rfl rfl rfl (by simp) (cs' := [_]) rfl fun _ hs => ?_)
    have hs := hs.f3
    refine O_n (S_st hs Tryz.sizeOf3 rfl rfl rfl (by simp) (cs' := [_]) rfl fun _ hs => ?_)
    have hs := hs.f4
    refine O_n (S_st hs Tryz.sizeOf25 rfl rfl rfl (by simp) (cs' := [_]) rfl fun _ hs => ?_)
    refine O_nil (T_kp [2, 3, 4] rfl ?_)
    refine T_ret ?_
    have hs := hs.f1
    have hs := hs.f2
    have hr1 := hr0.trans (end_2 (by omega) (by omega))
    exact parse_ret rfl rfl rfl rfl (hs.weak hs.le (Ghost.le.refl _) (List.sublist_append_left [_, _, _] _)) (by rw [hr1]; exact ⟨LstR.nil, by first | rfl | (show _ = ((s.length : Nat) : Int); omega), rfl⟩)
   ·
    dsimp only [cmpP] at h29
    refine O_nil (T_kp [0, 2, 3, 4, 5, 29] rfl ?_)
    refine T_condF rfl (T_skip ?_)
    refine T_seq (T_region rfl ?_)
    refine O_m rfl ?_
    refine O_y hs (Y_nil rfl ?_)
    refine O_y hs (Y_fieldAddr FO57_2 rfl (m := 2) rfl ?_)
    refine O_y hs (Y_ld 0 Tryz.isAgg24 rfl rfl rfl ?_)
    have hs := hs.f2
    refine O_n (S_st hs Tryz.sizeOf24 rfl rfl (hs.rowOne 2 rfl) (by simp) (cs' := [_]) rfl fun _ hs => ?_)
    have hs := hs.f3
    refine O_n (S_st hs Tryz.sizeOf3 rfl rfl rfl (by simp) (cs' := [_]) rfl fun _ hs => ?_)
    have hs := hs.f4
    refine O_n (S_st hs Tryz.sizeOf25 rfl rfl rfl (by simp) (cs' := [_]) rfl fun _ hs => ?_)
    refine O_nil (T_kp [2, 3, 4] rfl ?_)
    refine T_ret ?_
    have hs := hs.f1
    have hs := hs.f2
    have hs := hs.f4
    have hr1 := hr0.trans (end_3 (by omega) (by omega))
    obtain ⟨G2, hG2, hf, hs⟩ := hs.fixRow noM
    exact parse_ret rfl rfl rfl rfl (hs.weak hs.le (Ghost.le.refl _) (List.sublist_append_left [_, _, _] _)) (by rw [hr1]; exact ⟨rx_of hf (parse_cls (hr.trans (congrArg some hr1))), rfl, rfl⟩)

end Go.Proofs.YtkmgbcjfidpmgaaGreatDoor
