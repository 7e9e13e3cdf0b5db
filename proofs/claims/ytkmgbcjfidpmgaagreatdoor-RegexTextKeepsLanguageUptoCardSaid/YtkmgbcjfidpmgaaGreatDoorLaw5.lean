import Derived.Test.YtkmgbcjfidpmgaaGreatDoorExWalks9
import Derived.Test.YtkmgbcjfidpmgaaGreatDoorRound
import Derived.Test.YtkmgbcjfidpmgaaGreatDoorProg
import Derived.Test.YtkmgbcjfidpmgaaGreatDoorSame
import Derived.Test.YtkmgbcjfidpmgaaGreatDoorExThin
import Derived.Test.YtkmgbcjfidpmgaaGreatDoorShelf
namespace Go.Proofs.YtkmgbcjfidpmgaaGreatDoor
open Go Go.Ex Go.RowKit


theorem Y_boolEq1 {x : Cx} {W : World → Prop} {E : Env} {K : Value → Prop} {d : Option Tmp} {ty : TypeId} {pos : String} {aft : Array Edge} {g : Option (Nat × Bool)} {o p : Operand} {xt yt : TypeId} {a b : Bool} (hu : x.P.underlying xt = some .bool) (h1 : ev E o = some (.bool a)) (h2 : ev E p = some (.bool b)) (hab : a = b) (k : K (.bool true)) : Y x W ⟨d, .binOp .eql xt o p yt, ty, pos, aft, g⟩ E K :=
  Y_boolEqS hu h1 h2 (fun _ => k) (fun h => absurd hab h)
theorem null_ok' {G : Ghost} {v : Value} {l : List NodeV} {x : Bool} (hx : Rx G v l) (hl : l.length ≤ 1000000000) (h : matchF l [] = x) : FnOk Tryz.prog 26 [v] G [] fun r _ H' => H' = [] ∧ r = .bool x := by have := null_ok hx hl; rw [h] at this; exact this


theorem rowBlk {c : Ctx} {G : Ghost} {H : List Res} {w : World} {e k n : Nat} {v : Value} {xs : List Value} (h : St c G (.row e k v n xs :: H) w) (hn : 0 < n) : ∃ b cap rest, v = .slice (some ⟨b, 0, none⟩) n cap ∧ n ≤ cap ∧ cap ≤ maxLen ∧ St c G (.blk b e (xs ++ rest) :: H) w := by
  have hown : w.ownsRow 0 e k v n xs := h.hold (.row e k v n xs) (by simp)
  rcases hown.2 with ⟨_, h0⟩ | ⟨b, cap, cur, rfl, _, hh, hnc, hcm, hsz, htk⟩
  · omega
  refine ⟨b, cap, cur.toList.drop (n * k), rfl, hnc, hcm, h.os, h.tape, h.output, h.size, h.old, h.le, h.new, h.ghost, fun r hr => ?_, fun r hr k' hk => ?_, ?_⟩
  · rcases List.mem_cons.1 hr with rfl | hr
    · show w.heap[b]? = _
      rw [hh, ← htk, List.take_append_drop]
    · exact h.hold r (List.mem_cons_of_mem _ hr)
  · rcases List.mem_cons.1 hr with rfl | hr
    · obtain rfl : k' = b := hk
      exact h.off _ List.mem_cons_self k' rfl
    · exact h.off r (List.mem_cons_of_mem _ hr) k' hk
  · refine List.pairwise_cons.2 ⟨fun r hr k' hk hk2 => ?_, (List.pairwise_cons.1 h.apart).2⟩
    obtain rfl : k' = b := hk
    exact (List.pairwise_cons.1 h.apart).1 r hr k' rfl hk2
theorem flat_len {ns : List NodeV} (hc : ∀ n ∈ ns, ClsOk n.c) : (ns.flatMap nodeC).length = ns.length * 9 := by
  induction ns with
  | nil => rfl
  | cons n ns ih => rw [List.flatMap_cons, List.length_append, nodeC_len (hc n (by simp)), ih fun m hm => hc m (by simp [hm]), List.length_cons]; omega
theorem cells_at {A : List NodeV} {n : NodeV} {j : Nat} {rest : List Value} (hA : ∀ m ∈ A, ClsOk m.c) (hn : ClsOk n.c) (hj : A.length = j) : (((A ++ [n]).flatMap nodeC ++ rest).drop (j * 9)).take 9 = nodeC n := by
  have hl := flat_len hA
  rw [flat_emit, List.append_assoc, List.drop_left' (by rw [hl, hj]), List.take_left' (nodeC_len hn)]
theorem cells_put {A : List NodeV} {n m : NodeV} {j : Nat} {rest : List Value} (hA : ∀ m ∈ A, ClsOk m.c) (hn : ClsOk n.c) (hj : A.length = j) : ((A ++ [n]).flatMap nodeC ++ rest).take (j * 9) ++ nodeC m ++ ((A ++ [n]).flatMap nodeC ++ rest).drop (j * 9 + 9) = (A ++ [m]).flatMap nodeC ++ rest := by
  have hl := flat_len hA
  rw [hj] at hl
  have h9 := nodeC_len hn
  rw [flat_emit, flat_emit]
  have e1 : ((A.flatMap nodeC ++ nodeC n) ++ rest).take (j * 9) = A.flatMap nodeC := by rw [List.append_assoc]; exact List.take_left' hl
  have e2 : ((A.flatMap nodeC ++ nodeC n) ++ rest).drop (j * 9 + 9) = rest := List.drop_left' (by rw [List.length_append, hl, h9])
  rw [e1, e2]
theorem rx_blk {G : Ghost} {b n cap : Nat} {ls : List NodeV} {rest : List Value} (hn : n = ls.length) (hcap : n ≤ cap) (hm : cap ≤ maxLen) (hc : ∀ m ∈ ls, ClsOk m.c) (h : ∀ (i : Nat) (v : Value), (ls.flatMap nodeC ++ rest)[i]? = some v → gcell G ⟨b, i, none⟩ = some v) : Rx G (.slice (some ⟨b, 0, none⟩) n cap) ls := by
  subst hn
  refine rx_of ⟨_, _, rfl, flat_len hc, hcap, hm, fun _ => ⟨_, rfl, fun j u hj => ?_⟩⟩ hc
  have hadd : (⟨b, 0, none⟩ : Addr).add j = ⟨b, j, none⟩ := by
    unfold Addr.add; split
    · rename_i h0; simp [h0]
    · simp
  rw [hadd]
  refine h j u ?_
  rw [List.getElem?_append_left (List.getElem?_eq_some_iff.1 hj).1]; exact hj


set_option maxHeartbeats 4000000 in
set_option maxRecDepth 10000 in
theorem lawKeeps {G : Ghost} {va vb vw : Value} {a b wl : List UInt8} (ha : Bytes G va a) (hla : a.length ≤ 1048576) (hb : Bytes G vb b) (hlb : b.length ≤ 1048576) (hw : Bytes G vw wl) (hlw : wl.length ≤ 1048576) (hT : Tab G) :
  FnOk Tryz.prog 5 [va, vb, vw] G [] fun r _ H' => H' = [] ∧ r = .bool true := by
 obtain ⟨Aa, ca, rfl, _⟩ := id ha
 obtain ⟨Ab, cb, rfl, _⟩ := id hb
 obtain ⟨Aw, cw, rfl, _⟩ := id hw
 refine FnOk.of_T [(0, _), (1, _), (2, _)] Tryz.func5 rfl Tryz.ntmps5 (by simp) rfl fun w0 hs => ?_
 have ha0 := ha
 have hb0 := hb
 have hw0 := hw
 have hT0 := hT
 refine T_seq (T_region rfl ?_)
 refine O_a rfl ?_
 refine O_nil (T_kp [0, 1, 2] rfl ?_)
 refine T_seq (T_region rfl ?_)
 refine O_s (S_call (H1 := []) hs rfl Tryz.func12 rfl (by kernel_rfl) (sanity_ok hT) fun v1 G' H' _ hR hG17 hs => ?_)
 obtain ⟨rfl, rfl⟩ := hR
 replace hs : St _ _ [] _ := hs
 replace ha := ha.mono hG17
 replace hb := hb.mono hG17
 replace hw := hw.mono hG17
 replace hT := hT.mono hG17
 refine O_a rfl ?_
 refine O_nil (T_kp [0, 1, 2, 7] rfl ?_)
 refine T_seq (T_region rfl ?_)
 refine O_m rfl ?_
 refine O_s (S_call (H1 := []) hs rfl Tryz.func19 rfl (by kernel_rfl) (small_ok (n := 8) hw) fun v2 G' H' _ hR hG19 hs => ?_)
 obtain ⟨rfl, hw19⟩ := hR
 replace hs : St _ _ [] _ := hs
 replace ha := ha.mono hG19
 replace hb := hb.mono hG19
 replace hw := hw.mono hG19
 replace hT := hT.mono hG19
 obtain ⟨W, hWe⟩ : ∃ W, W = wl.take 8 := ⟨_, rfl⟩
 have hWl : W.length ≤ 8 := by rw [hWe, List.length_take]; omega
 rw [← hWe] at hw19
 obtain ⟨Aw19, cw19, rfl, _⟩ := id hw19
 refine O_a rfl ?_
 refine O_nil (T_kp [0, 1, 7, 8] rfl ?_)
 refine T_seq (T_region rfl ?_)
 refine O_m rfl ?_
 refine O_s (S_call (H1 := []) hs rfl Tryz.func16 rfl (by kernel_rfl) (made_ok (most := 20) (by decide) 1048576 _ _ a (by omega) (Nat.le_refl _) ha) fun v3 G' H' _ hR hG21 hs => ?_)
 obtain ⟨rfl, _, hx21, ⟨t21, hok21, hsh21, rfl⟩, hlx21⟩ := hR
 replace hs : St _ _ [] _ := hs
 replace ha := ha.mono hG21
 replace hb := hb.mono hG21
 replace hw := hw.mono hG21
 replace hT := hT.mono hG21
 replace hw19 := hw19.mono hG21
 rw [nodesT_len] at hlx21
 obtain ⟨Ax21, cx21, rfl⟩ := LstR.slice hx21
 refine O_a rfl ?_
 refine O_nil (T_kp [1, 7, 8, 9] rfl ?_)
 refine T_seq (T_region rfl ?_)
 refine O_m rfl ?_
 refine O_s (S_call (H1 := []) hs rfl Tryz.func16 rfl (by kernel_rfl) (made_ok (most := 20) (by decide) 1048576 _ _ b (by omega) (Nat.le_refl _) hb) fun v4 G' H' _ hR hG23 hs => ?_)
 obtain ⟨rfl, _, hx23, ⟨t23, hok23, hsh23, rfl⟩, hlx23⟩ := hR
 replace hs : St _ _ [] _ := hs
 replace ha := ha.mono hG23
 replace hb := hb.mono hG23
 replace hw := hw.mono hG23
 replace hT := hT.mono hG23
 replace hw19 := hw19.mono hG23
 replace hx21 := hx21.mono hG23
 rw [nodesT_len] at hlx23
 obtain ⟨Ax23, cx23, rfl⟩ := LstR.slice hx23
 refine O_a rfl ?_
 refine O_nil (T_kp [7, 8, 9, 10] rfl ?_)
 refine T_seq (T_region rfl ?_)
 refine O_m rfl ?_
 refine O_m rfl ?_
 refine O_s (S_call (H1 := []) hs rfl Tryz.func20 rfl (by kernel_rfl) (rbin_ok (kk := 5) hx21 hx23 (by rw [nodesT_len]; omega) (by rw [nodesT_len]; (try simp only [sizeT]); omega) (IsTree.rng ⟨_, hok23, hsh23, rfl⟩ (by rw [nodesT_len]; (try simp only [sizeT]); omega))) fun v5 G' H' _ hR hG26 hs => ?_)
 obtain ⟨rfl, hU26⟩ := hR
 replace hs : St _ _ [] _ := hs
 replace ha := ha.mono hG26
 replace hb := hb.mono hG26
 replace hw := hw.mono hG26
 replace hT := hT.mono hG26
 replace hw19 := hw19.mono hG26
 replace hx21 := hx21.mono hG26
 replace hx23 := hx23.mono hG26
 rw [binF_nodes (.inr (.inl rfl))] at hU26
 change Rx _ _ (nodesT 0 (.alt t21 t23)) at hU26
 refine O_a rfl ?_
 refine O_nil (T_kp [7, 8, 9, 10, 11] rfl ?_)
 refine T_seq (T_region rfl ?_)
 refine O_m rfl ?_
 refine O_m rfl ?_
 refine O_s (S_call (H1 := []) hs rfl Tryz.func20 rfl (by kernel_rfl) (rbin_row (kk := 5) hx23 hx21 (by rw [nodesT_len]; omega) (by rw [nodesT_len]; omega) (IsTree.rng ⟨_, hok21, hsh21, rfl⟩ (by rw [nodesT_len]; omega))) fun v6 G' H' _ hR hG29 hs => ?_)
 obtain rfl := hR
 replace hs : St _ _ [_] _ := hs
 replace ha := ha.mono hG29
 replace hb := hb.mono hG29
 replace hw := hw.mono hG29
 replace hT := hT.mono hG29
 replace hw19 := hw19.mono hG29
 replace hx21 := hx21.mono hG29
 replace hx23 := hx23.mono hG29
 replace hU26 := hU26.mono hG29
 refine O_a rfl ?_
 refine O_nil (T_kp [7, 8, 11, 12] rfl ?_)
 obtain ⟨bq, capq, rest, rfl, hcq, hcm, hs⟩ := rowBlk hs (by rw [binF_len]; omega)
 have hAl : (nodesT 0 t23 ++ nodesT (sizeT t23) t21).length = sizeT t23 + sizeT t21 := by rw [List.length_append, nodesT_len, nodesT_len]
 have hAc : ∀ m ∈ (nodesT 0 t23 ++ nodesT (sizeT t23) t21), ClsOk m.c := fun m hm => (List.mem_append.1 hm).elim (nodes_cls _ _ hok23 m) (nodes_cls _ _ hok21 m)
 have hbE : binF 5 (nodesT 0 t23) (nodesT 0 t21) = (nodesT 0 t23 ++ nodesT (sizeT t23) t21) ++ [⟨5, noC, (((sizeT t23 : Nat) : Int) - 1), (((sizeT t23 + sizeT t21 : Nat) : Int) - 1), 0, 0⟩] := by rw [binF_nodes (.inr (.inl rfl))]; show nodesT 0 (.alt t23 t21) = _; rw [nodesT, Nat.zero_add]; rfl
 rw [hbE] at hs
 obtain ⟨bl, hbl⟩ : ∃ n, n = (binF 5 (nodesT 0 t23) (nodesT 0 t21)).length := ⟨_, rfl⟩
 rw [← hbl] at hcq
 rw [← hbl]
 rw [binF_len, nodesT_len, nodesT_len] at hbl
 refine T_seq (T_region rfl ?_)
 refine O_m rfl ?_
 refine O_m rfl ?_
 refine O_y hs (Y_len Tryz.underlying24 rfl ?_)
 refine O_y hs (Y_sub (c := ((sizeT t23 + sizeT t21 : Nat) : Int)) rfl rfl (by omega) (by omega) ?_)
 refine O_y hs (Y_idxBlk (m := (sizeT t23 + sizeT t21) * 9) (sizeT t23 + sizeT t21) Tryz.underlying24 Tryz.sizeOf42 rfl rfl rfl (by omega) rfl ?_)
 refine O_y hs (Y_ldA 0 Tryz.isAgg42 Tryz.sizeOf42 rfl rfl (vs := [.int .i64 5, u64V 0, u64V 0, u64V 0, u64V 0, .int .i64 (((sizeT t23 : Nat) : Int) - 1), .int .i64 (((sizeT t23 + sizeT t21 : Nat) : Int) - 1), .int .i64 0, .int .i64 0]) (cells_at hAc noC_ok hAl (n := ⟨5, noC, (((sizeT t23 : Nat) : Int) - 1), (((sizeT t23 + sizeT t21 : Nat) : Int) - 1), 0, 0⟩)) rfl ?_)
 refine O_s (S_alloc hs Tryz.zeroValue42 (cs := [_, _, _, _, _, _, _, _, _]) rfl fun b13 _ hs => ?_)
 refine O_n (S_stA hs Tryz.sizeOf42 rfl rfl (vs := [_, _, _, _, _, _, _, _, _]) rfl (rfl) (by simp) (cs' := [_, _, _, _, _, _, _, _, _]) rfl fun _ hs => ?_)
 refine O_nil (T_kp [7, 8, 11, 12, 13] rfl ?_)
 refine T_seq (T_region rfl ?_)
 refine O_y hs (Y_fieldAddr FO42_2 rfl (m := 5) rfl ?_)
 refine O_y hs (Y_ld 0 Tryz.isAgg3 rfl rfl rfl ?_)
 refine O_a rfl ?_
 refine O_nil (T_kp [7, 8, 11, 12, 13, 14] rfl ?_)
 refine T_seq (T_region rfl ?_)
 refine O_y hs (Y_fieldAddr FO42_3 rfl (m := 6) rfl ?_)
 refine O_y hs (Y_ld 0 Tryz.isAgg3 rfl rfl rfl ?_)
 refine O_y hs (Y_fieldAddr FO42_2 rfl (m := 5) rfl ?_)
 refine O_n (S_st hs Tryz.sizeOf3 rfl rfl rfl (by simp) (cs' := [_, _, _, _, _, _, _, _, _]) rfl fun _ hs => ?_)
 refine O_nil (T_kp [7, 8, 11, 12, 13, 14] rfl ?_)
 refine T_seq (T_region rfl ?_)
 refine O_m rfl ?_
 refine O_y hs (Y_fieldAddr FO42_3 rfl (m := 6) rfl ?_)
 refine O_n (S_st hs Tryz.sizeOf3 rfl rfl rfl (by simp) (cs' := [_, _, _, _, _, _, _, _, _]) rfl fun _ hs => ?_)
 refine O_nil (T_kp [7, 8, 11, 12, 13] rfl ?_)
 refine T_seq (T_region rfl ?_)
 refine O_m rfl ?_
 refine O_m rfl ?_
 refine O_y hs (Y_len Tryz.underlying24 rfl ?_)
 refine O_y hs (Y_sub (c := ((sizeT t23 + sizeT t21 : Nat) : Int)) rfl rfl (by omega) (by omega) ?_)
 refine O_y hs (Y_ldA 0 Tryz.isAgg42 Tryz.sizeOf42 rfl rfl (vs := [_, _, _, _, _, _, _, _, _]) rfl rfl ?_)
 refine O_y hs (Y_idxBlk (m := (sizeT t23 + sizeT t21) * 9) (sizeT t23 + sizeT t21) Tryz.underlying24 Tryz.sizeOf42 rfl rfl rfl (by omega) rfl ?_)
 have hs := hs.f1
 refine O_n (S_stA hs Tryz.sizeOf42 rfl rfl (vs := [.int .i64 5, u64V 0, u64V 0, u64V 0, u64V 0, .int .i64 (((sizeT t23 + sizeT t21 : Nat) : Int) - 1), .int .i64 (((sizeT t23 : Nat) : Int) - 1), .int .i64 0, .int .i64 0]) rfl rfl (by rw [List.length_append, flat_len (app_cls hAc noC_ok), List.length_append, hAl]; simp; omega) (cs' := _) (cells_put hAc noC_ok hAl (m := ⟨5, noC, (((sizeT t23 + sizeT t21 : Nat) : Int) - 1), (((sizeT t23 : Nat) : Int) - 1), 0, 0⟩)) fun _ hs => ?_)
 refine O_nil (T_kp [7, 8, 11, 12] rfl ?_)
 obtain ⟨_, hG12, hfb, hs⟩ := hs.fixBlk (fun k _ => noMb k)
 have hsw : Rx _ _ (swapL t23 t21) := rx_blk (ls := swapL t23 t21) (by rw [swap_len]; exact hbl) hcq hcm (swap_cls hok23 hok21) hfb
 replace ha := ha.mono hG12
 replace hb := hb.mono hG12
 replace hw := hw.mono hG12
 replace hT := hT.mono hG12
 replace hw19 := hw19.mono hG12
 replace hx21 := hx21.mono hG12
 replace hx23 := hx23.mono hG12
 replace hU26 := hU26.mono hG12
 refine T_seq (T_region rfl ?_)
 refine O_m rfl ?_
 refine O_s (S_call (H1 := []) hs rfl Tryz.func17 rfl (by kernel_rfl) (fmt_ok' hsw (by rw [swap_len]; omega) hT (swap_format hok23 hok21 hsh23 hsh21 (by omega))) fun v7 G' H' _ hR hG51 hs => ?_)
 obtain ⟨rfl, rfl⟩ := hR
 replace hs : St _ _ [_] _ := hs
 replace ha := ha.mono hG51
 replace hb := hb.mono hG51
 replace hw := hw.mono hG51
 replace hT := hT.mono hG51
 replace hw19 := hw19.mono hG51
 replace hx21 := hx21.mono hG51
 replace hx23 := hx23.mono hG51
 replace hU26 := hU26.mono hG51
 replace hsw := hsw.mono hG51
 refine O_m rfl ?_
 refine O_y hs (Y_extract rfl rfl ?_)
 refine O_y hs (Y_extract rfl rfl ?_)
 refine O_a rfl ?_
 refine O_a rfl ?_
 refine O_nil (T_kp [7, 8, 11, 12, 15, 16] rfl ?_)
 refine T_seq (T_region rfl ?_)
 refine O_m rfl ?_
 refine O_m rfl ?_
 refine O_yy 55 hs rfl rfl (Y_move rfl ?_)
 refine O_yy 55 hs rfl rfl (Y_cmpT rfl rfl rfl (rfl) ?_)
 refine O_y hs (Y_pickT rfl rfl ?_)
 refine O_m rfl ?_
 refine O_yy 59 hs rfl rfl (Y_move rfl ?_)
 refine O_yy 59 hs rfl rfl (Y_move rfl ?_)
 obtain ⟨f1, hp1⟩ := parse_short (t := .alt t21 t23) ⟨hok21, hok23⟩ ⟨hsh21, hsh23⟩ (by simp only [sizeT]; omega)
 refine O_yes 59 rfl rfl (S_call (H1 := []) hs rfl Tryz.func18 rfl (by kernel_rfl) (parsed_ok' (f := f1) (s := txt (.alt t21 t23)) hU26 (by have := txt_short (.alt t21 t23) ⟨hsh21, hsh23⟩; simp only [sizeT] at this; omega) (by rw [nodesT_len]; simp only [sizeT]; omega) hp1) fun v8 G' H' _ hR hG62 hs => ?_)
 obtain ⟨rfl, rfl⟩ := hR
 replace hs : St _ _ [_] _ := hs
 replace ha := ha.mono hG62
 replace hb := hb.mono hG62
 replace hw := hw.mono hG62
 replace hT := hT.mono hG62
 replace hw19 := hw19.mono hG62
 replace hx21 := hx21.mono hG62
 replace hx23 := hx23.mono hG62
 replace hU26 := hU26.mono hG62
 replace hsw := hsw.mono hG62
 refine O_y hs (Y_pickT rfl rfl ?_)
 refine O_m rfl ?_
 refine O_yy 64 hs rfl rfl (Y_move rfl ?_)
 refine O_yy 64 hs rfl rfl (Y_move rfl ?_)
 refine O_yes 64 rfl rfl (S_call (H1 := []) hs rfl Tryz.func21 rfl (by kernel_rfl) (match_ok hsw hw19 (by rw [swap_len]; omega) (by omega)) fun v9 G' H' _ hR hG67 hs => ?_)
 obtain ⟨rfl, rfl⟩ := hR
 replace hs : St _ _ [_] _ := hs
 replace ha := ha.mono hG67
 replace hb := hb.mono hG67
 replace hw := hw.mono hG67
 replace hT := hT.mono hG67
 replace hw19 := hw19.mono hG67
 replace hx21 := hx21.mono hG67
 replace hx23 := hx23.mono hG67
 replace hU26 := hU26.mono hG67
 replace hsw := hsw.mono hG67
 refine O_yy 64 hs rfl rfl (Y_move rfl ?_)
 refine O_yy 64 hs rfl rfl (Y_move rfl ?_)
 refine O_yes 64 rfl rfl (S_call (H1 := []) hs rfl Tryz.func21 rfl (by kernel_rfl) (match_ok hU26 hw19 (by rw [nodesT_len]; (try simp only [sizeT]); omega) (by first | omega | (simp only [List.length_take, List.length_drop]; omega))) fun v10 G' H' _ hR hG70 hs => ?_)
 obtain ⟨rfl, rfl⟩ := hR
 replace hs : St _ _ [_] _ := hs
 replace ha := ha.mono hG70
 replace hb := hb.mono hG70
 replace hw := hw.mono hG70
 replace hT := hT.mono hG70
 replace hw19 := hw19.mono hG70
 replace hx21 := hx21.mono hG70
 replace hx23 := hx23.mono hG70
 replace hU26 := hU26.mono hG70
 replace hsw := hsw.mono hG70
 refine O_yy 64 hs rfl rfl (Y_boolEq1 Tryz.underlying4 rfl rfl (swap_match hok23 hok21 (by omega) W) ?_)
 refine O_y hs (Y_pickT rfl rfl ?_)
 refine O_a rfl ?_
 refine O_nil (T_kp [6] rfl ?_)
 refine T_ret ?_
 refine Rt_fin (vs := [_]) Tryz.results5 rfl ⟨rfl, trivial⟩ ?_
 try dsimp only [tup]
 exact ⟨_, [], hs.done, rfl, rfl⟩

end Go.Proofs.YtkmgbcjfidpmgaaGreatDoor
