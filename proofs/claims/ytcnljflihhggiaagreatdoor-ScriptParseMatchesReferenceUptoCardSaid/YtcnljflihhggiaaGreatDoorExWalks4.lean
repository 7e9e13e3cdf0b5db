import Derived.Test.YtcnljflihhggiaaGreatDoorExWalks3
import Derived.Test.YtcnljflihhggiaaGreatDoorProg
import Derived.Test.YtcnljflihhggiaaGreatDoorPlain
import Derived.Test.YtcnljflihhggiaaGreatDoorExThin
import Derived.Test.YtcnljflihhggiaaGreatDoorExOrders
import Derived.Test.YtcnljflihhggiaaGreatDoorShelf
namespace Go.Proofs.YtcnljflihhggiaaGreatDoor
open Go Go.Ex Go.RowKit
theorem FO70_0 : fieldOff Tryz.prog 70 0 = some 0 := by kernel_rfl
theorem FO70_1 : fieldOff Tryz.prog 70 1 = some 1 := by kernel_rfl
theorem FO70_2 : fieldOff Tryz.prog 70 2 = some 2 := by kernel_rfl
theorem FO70_3 : fieldOff Tryz.prog 70 3 = some 3 := by kernel_rfl

/-- An event that can be written, made from any event. -/
def madeE (e : Ev) : Ev :=
  ⟨1 + bitsF e.kind 255 % 9, if 1 + bitsF e.kind 255 % 9 = 9 then 0 else bitsF e.a 1048575, if useC (1 + bitsF e.kind 255 % 9).toNat = true then bitsF e.c 1048575 else 0, if 1 + bitsF e.kind 255 % 9 = 1 then e.b.take 40 else []⟩
def madeL (l : List Ev) : List Ev := (l.take 20).map madeE
theorem made_of {e : Ev} {K a c : Int} {b : List UInt8} (hK : K = 1 + bitsF e.kind 255 % 9) (ha : (K = 9 ∧ a = 0) ∨ (K ≠ 9 ∧ a = bitsF e.a 1048575)) (hc : (useC K.toNat = true ∧ c = bitsF e.c 1048575) ∨ (useC K.toNat = false ∧ c = 0)) (hb : (K = 1 ∧ b = e.b.take 40) ∨ (K ≠ 1 ∧ b = [])) : madeE e = ⟨K, a, c, b⟩ := by
  subst hK
  unfold madeE
  congr 1
  · rcases ha with ⟨h, rfl⟩ | ⟨h, rfl⟩
    · rw [if_pos h]
    · rw [if_neg h]
  · rcases hc with ⟨h, rfl⟩ | ⟨h, rfl⟩
    · rw [if_pos h]
    · rw [if_neg (by rw [h]; simp)]
  · rcases hb with ⟨h, rfl⟩ | ⟨h, rfl⟩
    · rw [if_pos h]
    · rw [if_neg h]
theorem made_wr (e : Ev) : Wr (madeE e) := by
  have h1 := bits_rng e.kind (z := 255) (by decide) (by decide)
  have h2 := bits_rng e.a (z := 1048575) (by decide) (by decide)
  have h3 := bits_rng e.c (z := 1048575) (by decide) (by decide)
  refine (wr_iff _).1 (wr_yes ((fit_om _).2 ?_) ?_ ?_ ?_ ?_)
  · unfold madeE; dsimp only
    refine ⟨by omega, ?_, ?_, ?_⟩
    · split <;> omega
    · split
      · left; assumption
      · right; rfl
    · split
      · rename_i h; left; exact useC_om.1 h
      · right; rfl
  all_goals
    unfold madeE; dsimp only
    split <;> omega
theorem madeL_wr (l : List Ev) : ∀ e ∈ madeL l, Wr e := by
  intro e he
  obtain ⟨x, _, rfl⟩ := List.mem_map.1 he
  exact made_wr x
theorem madeL_len (l : List Ev) : (madeL l).length ≤ 20 := by unfold madeL; rw [List.length_map, List.length_take]; omega
theorem madeL_b (l : List Ev) : ∀ e ∈ madeL l, e.b.length ≤ 40 := by
  intro e he
  obtain ⟨x, _, rfl⟩ := List.mem_map.1 he
  unfold madeE; dsimp only
  split
  · rw [List.length_take]; omega
  · simp
theorem lineT_len {e : Ev} (hw : Wr e) : (lineT e).length ≤ 2 * e.b.length + 30 := by
  have h1 := kw_len e.kind.toNat
  have h2 : (numT e.a).length ≤ 7 := dec_len7 (by have := hw.la; omega)
  have h3 := hexT_len e.b
  have h4 : (numT e.c).length ≤ 7 := dec_len7 (by have := hw.lc; omega)
  have ho : ∀ u t, (optT u t).length ≤ t.length + 1 := fun u t => by unfold optT; split <;> simp
  have o1 := ho (useA e.kind.toNat) (numT e.a)
  have o2 := ho (useB e.kind.toNat) (hexT e.b)
  have o3 := ho (useC e.kind.toNat) (numT e.c)
  unfold lineT; simp only [List.length_append, List.length_singleton]; omega
theorem linesT_len {B : Nat} : ∀ l : List Ev, (∀ e ∈ l, Wr e ∧ e.b.length ≤ B) → (linesT l).length ≤ l.length * (2 * B + 30)
  | [], _ => by simp [linesT]
  | e :: l, h => by
    have ih := linesT_len l fun x hx => h x (by simp [hx])
    obtain ⟨h1, h2⟩ := h e (by simp)
    have h3 := lineT_len h1
    rw [show linesT (e :: l) = lineT e ++ linesT l from rfl, List.length_append, List.length_cons, Nat.add_mul]; omega
theorem fmt_made_len (l : List Ev) : (fmtT (madeL l)).length ≤ 2200 := by
  rw [fmt_wr (madeL_wr l)]
  have := linesT_len (B := 40) (madeL l) fun e he => ⟨madeL_wr l e he, madeL_b l e he⟩
  have := madeL_len l
  omega
theorem made_hlen (l : List Ev) : ∀ k, (∀ i (hi : i < (madeL l).length), i < k → wrE (madeL l)[i] = true) → (linesT ((madeL l).take k)).length ≤ 900000 := fun k _ => by
  have := linesT_len (B := 40) ((madeL l).take k) fun e he => ⟨madeL_wr l e (List.mem_of_mem_take he), madeL_b l e (List.mem_of_mem_take he)⟩
  have h2 := madeL_len l
  rw [List.length_take] at this
  omega
theorem map_take_succ {α β : Type} (f : α → β) (l : List α) (k : Nat) (h : k < l.length) : (l.take (k + 1)).map f = (l.take k).map f ++ [f l[k]] := by
  rw [List.take_add_one, List.getElem?_eq_getElem h, List.map_append]; rfl
theorem one4' {k a c : Int} {A : Option Addr} {n m : Nat} : ∀ y ∈ [Value.int .i64 k, .int .i64 a, .int .i64 c, .slice A n m], y.oneCell' = true := by
  intro y hy
  simp only [List.mem_cons, List.not_mem_nil, or_false] at hy
  rcases hy with rfl | rfl | rfl | rfl <;> rfl


set_option maxHeartbeats 4000000 in
set_option maxRecDepth 10000 in
theorem made_ok {G : Ghost} {v : Value} {l : List Ev} (hx : Evs G v l) :
  FnOk Tryz.prog 13 [v] G [] fun r G' H' => H' = [] ∧ Evs G' r (madeL l) := by
 obtain ⟨A, cap, rfl⟩ := LstR.slice hx
 refine FnOk.of_T [(0, _)] Tryz.func13 rfl Tryz.ntmps13 (by simp) rfl fun w0 hs => ?_
 have hx0 := hx
 refine T_seq (T_region rfl ?_)
 refine O_a rfl ?_
 refine O_nil (T_kp [0] rfl ?_)
 refine T_seq (T_region rfl ?_)
 refine O_s (S_lit hs Tryz.underlying22 Tryz.sizeOf36 Tryz.zeroValue36 rfl rfl (by decide) (by decide) rfl (cs := []) rfl rfl fun v1 _ hs _ => ?_)
 refine O_a rfl ?_
 refine O_nil (T_kp [0, 3] rfl ?_)
 refine T_seq (T_seq (T_region rfl ?_))
 refine O_a rfl ?_
 refine O_nil (T_kp [0, 3, 4] rfl ?_)
 refine T_block (T_loop (fun m E w => ∃ (k : Nat) (cs : List (List Value)) (v : Value) (G2 : Ghost), k ≤ l.length ∧ k ≤ 20 ∧ EvCs G2 cs ((l.take k).map madeE) ∧ m = 20 - k ∧ E = ⟨[], [(0, (.slice A l.length cap)), (3, v), (4, .int .i64 (k : Int))]⟩ ∧ St ⟨w0, G, feet []⟩ G2 [.row 36 4 v ((l.take k).map madeE).length cs.flatten] w) (L := [(0, _), (3, _), (4, _)]) ⟨rfl, rfl, rfl, trivial⟩ (⟨0, [], _, _, by omega, by omega, EvCs.nil _, rfl, rfl, hs⟩) fun m E w hI => ?_)
 obtain ⟨k, cs, v, G2, hk, hk2, hec, rfl, rfl, hs⟩ := hI
 have hx := hx0.mono hs.le
 refine T_seq (T_seq (T_region rfl ?_))
 refine O_m rfl ?_
 refine O_m rfl ?_
 refine O_y hs (Y_len Tryz.underlying22 rfl ?_)
 refine O_y hs (Y_cmpS rfl rfl rfl (fun h10 => ?_) (fun h10 => ?_))
 ·
  dsimp only [cmpP] at h10
  refine O_m rfl ?_
  refine O_yy 11 hs rfl rfl (Y_move rfl ?_)
  refine O_yy 11 hs rfl rfl (Y_cmpS rfl rfl rfl (fun h13 => ?_) (fun h13 => ?_))
  ·
   dsimp only [cmpP] at h13
   refine O_y hs (Y_pickT rfl rfl ?_)
   refine O_nil (T_kp [0, 3, 4, 14] rfl ?_)
   refine T_condT rfl (T_skip ?_)
   refine T_seq (T_block (T_seq (T_region rfl ?_)))
   refine O_m rfl ?_
   refine O_m rfl ?_
   refine O_y hs (Y_idxS hx k Tryz.underlying22 Tryz.sizeOf36 rfl rfl rfl (by omega) fun p19 c19 hp19 hc19 hR19 => ?_)
   obtain ⟨ve19, rfl, hbe19⟩ := hR19
   obtain ⟨e, hel⟩ : ∃ e, e = l[k]'(by omega) := ⟨_, rfl⟩
   rw [← hel] at hp19 hbe19
   have hbr := bits_rng e.kind (z := 255) (by decide) (by decide)
   refine O_y hs (Y_fieldAddrP FO36_0 rfl ?_)
   refine O_y hs (Y_ldG Tryz.isAgg3 rfl (hp19 0 (.int .i64 e.kind) rfl) ?_)
   refine O_y hs (Y_bits (c := bitsF e.kind 255) rfl rfl (.inl rfl) rfl ?_)
   refine O_y hs (Y_rem (c := bitsF e.kind 255 % 9) rfl rfl (by omega) (by decide) rfl ?_)
   obtain ⟨K, hK⟩ : ∃ K, K = 1 + bitsF e.kind 255 % 9 := ⟨_, rfl⟩
   refine O_y hs (Y_add (c := K) rfl rfl (hK.symm) (by omega) ?_)
   refine O_y hs (Y_build Tryz.zeroValue36 rfl PL36 rfl (cs := [_, _, _, _]) rfl ?_)
   refine O_s (S_alloc hs Tryz.zeroValue36 (cs := [_, _, _, _]) rfl fun b5 _ hs => ?_)
   refine O_n (S_stA hs Tryz.sizeOf36 rfl rfl (vs := [_, _, _, _]) rfl (rfl) (by simp) (cs' := [_, _, _, _]) rfl fun _ hs => ?_)
   refine O_nil (T_kp [0, 3, 4, 5] rfl ?_)
   refine T_seq (T_seq (T_region rfl ?_))
   refine O_y hs (Y_fieldAddr FO36_0 rfl (m := 0) rfl ?_)
   refine O_y hs (Y_ld 0 Tryz.isAgg3 rfl rfl rfl ?_)
   refine O_y hs (Y_cmpS rfl rfl rfl (fun h28 => ?_) (fun h28 => ?_))
   ·
    dsimp only [cmpP] at h28
    refine O_nil (T_kp [0, 3, 4, 5, 28] rfl ?_)
    refine T_condT rfl (T_region rfl ?_)
    refine O_m rfl ?_
    refine O_m rfl ?_
    refine O_y hs (Y_idxS hx k Tryz.underlying22 Tryz.sizeOf36 rfl rfl rfl (by omega) fun p31 c31 hp31 hc31 hR31 => ?_)
    obtain ⟨ve31, rfl, hbe31⟩ := hR31
    rw [← hel] at hp31 hbe31
    obtain ⟨A31, c31, rfl, _⟩ := id hbe31
    refine O_y hs (Y_fieldAddrP FO36_1 rfl ?_)
    refine O_y hs (Y_ldG Tryz.isAgg3 rfl (hp31 1 (.int .i64 e.a) rfl) ?_)
    refine O_y hs (Y_bits (c := bitsF e.a 1048575) rfl rfl (.inl rfl) rfl ?_)
    refine O_y hs (Y_fieldAddr FO36_1 rfl (m := 1) rfl ?_)
    refine O_n (S_st hs Tryz.sizeOf3 rfl rfl rfl (by simp) (cs' := [_, _, _, _]) rfl fun _ hs => ?_)
    refine O_nil (T_kp [0, 3, 4, 5] rfl ?_)
    refine T_seq (T_seq (T_region rfl ?_))
    refine O_y hs (Y_fieldAddr FO36_0 rfl (m := 0) rfl ?_)
    refine O_y hs (Y_ld 0 Tryz.isAgg3 rfl rfl rfl ?_)
    refine O_s (S_call (H1 := []) hs rfl Tryz.func24 rfl (by kernel_rfl) (hasc_ok) fun v2 G' H' _ hR hG38 hs => ?_)
    obtain ⟨rfl, rfl⟩ := hR
    replace hs : St _ _ [_, _] _ := hs
    replace hx := hx.mono hG38
    replace hec := hec.mono hG38
    replace hbe31 := hbe31.mono hG38
    cases h38 : useC K.toNat
    ·
     refine O_nil (T_kp [0, 3, 4, 5, 38] rfl ?_)
     refine T_condF rfl (T_skip ?_)
     refine T_seq (T_seq (T_region rfl ?_))
     refine O_y hs (Y_fieldAddr FO36_0 rfl (m := 0) rfl ?_)
     refine O_y hs (Y_ld 0 Tryz.isAgg3 rfl rfl rfl ?_)
     refine O_y hs (Y_cmpS rfl rfl rfl (fun h48 => ?_) (fun h48 => ?_))
     ·
      dsimp only [cmpP] at h48
      refine O_nil (T_kp [0, 3, 4, 5, 48] rfl ?_)
      refine T_condT rfl (T_drawS [0, 1, 2, 3, 4, 5, 6, 7, 8, 9, 10, 11, 12, 13] hs (by kernel_rfl) ?_)
      replace hs := hs.drew
      refine A_take 0 rfl (by kernel_rfl) rfl hs (Y_move rfl ?_)
      refine A_take 1 rfl (by kernel_rfl) rfl hs (Y_move rfl ?_)
      refine A_take 2 rfl (by kernel_rfl) rfl hs (Y_idxS hx k Tryz.underlying22 Tryz.sizeOf36 rfl rfl rfl (by omega) fun p51 c51 hp51 hc51 hR51 => ?_)
      obtain ⟨ve51, rfl, hbe51⟩ := hR51
      rw [← hel] at hp51 hbe51
      obtain ⟨A51, c51, rfl, _⟩ := id hbe51
      refine A_take 3 rfl (by kernel_rfl) rfl hs (Y_fieldAddrP FO36_3 rfl ?_)
      refine A_take 4 rfl (by kernel_rfl) rfl hs (Y_ldG Tryz.isAgg25 rfl (hp51 3 (.slice A51 e.b.length c51) rfl) ?_)
      refine A_take 5 rfl (by kernel_rfl) rfl hs (Y_move rfl ?_)
      refine A_take 6 rfl (by kernel_rfl) rfl hs (Y_move rfl ?_)
      refine A_take 7 rfl (by kernel_rfl) rfl hs (Y_idxS hx k Tryz.underlying22 Tryz.sizeOf36 rfl rfl rfl (by omega) fun p56 c56 hp56 hc56 hR56 => ?_)
      obtain ⟨ve56, rfl, hbe56⟩ := hR56
      rw [← hel] at hp56 hbe56
      obtain ⟨A56, c56, rfl, _⟩ := id hbe56
      refine A_take 8 rfl (by kernel_rfl) rfl hs (Y_fieldAddrP FO36_3 rfl ?_)
      refine A_take 9 rfl (by kernel_rfl) rfl hs (Y_ldG Tryz.isAgg25 rfl (hp56 3 (.slice A56 e.b.length c56) rfl) ?_)
      refine A_take 10 rfl (by kernel_rfl) rfl hs (Y_len Tryz.underlying25 rfl ?_)
      refine A_take 11 rfl (by kernel_rfl) rfl hs (Y_min (c := ((min e.b.length 40 : Nat) : Int)) rfl rfl (by omega) ?_)
      refine A_take 12 rfl (by kernel_rfl) rfl hs (Y_sliceB hbe51 0 (min e.b.length 40) Tryz.underlying25 Tryz.sizeOf5 rfl rfl ⟨_, _, rfl, rfl⟩ (by omega) (by omega) fun s61 hs61 => ?_)
      obtain ⟨A61, c61, rfl, _⟩ := id hs61
      refine A_take 13 rfl (by kernel_rfl) rfl hs (Y_fieldAddr FO36_3 rfl (m := 3) rfl ?_)
      refine A_tailN 14 rfl (by kernel_rfl) (by kernel_rfl) rfl (S_st hs Tryz.sizeOf25 rfl rfl rfl (by simp) (cs' := [_, _, _, _]) rfl fun _ hs => ?_)
      refine A_done (by kernel_rfl) (T_kp [0, 3, 4, 5] rfl ?_)
      refine T_region rfl ?_
      refine O_m rfl ?_
      refine O_y hs (Y_ldA 0 Tryz.isAgg36 Tryz.sizeOf36 rfl rfl (vs := [_, _, _, _]) rfl rfl ?_)
      refine O_s (S_lit hs Tryz.underlying22 Tryz.sizeOf36 Tryz.zeroValue36 rfl rfl (by decide) (by decide) rfl (cs := [_, _, _, _]) rfl rfl fun v3 _ hs _ => ?_)
      obtain ⟨_, hG65, hl65, hs⟩ := hs.fixRow noM
      replace hx := hx.mono hG65
      replace hec := hec.mono hG65
      replace hbe31 := hbe31.mono hG65
      replace hbe51 := hbe51.mono hG65
      replace hbe56 := hbe56.mono hG65
      replace hs61 := hs61.mono hG65
      have hs := hs.f1
      refine O_s (S_append hs Tryz.underlying22 TI36 rfl (by decide) rfl rfl (hl65) (one4') (by rw [List.length_map, List.length_take]; omega) (by rw [List.length_map, List.length_take]; omega) fun v4 _ hs => ?_)
      refine O_a rfl ?_
      refine O_nil (T_kp [0, 3, 4] rfl ?_)
      refine T_region rfl ?_
      refine O_m rfl ?_
      refine O_y hs (Y_add (c := ((k + 1 : Nat) : Int)) rfl rfl (by omega) (by omega) ?_)
      refine O_a rfl ?_
      have hcut : (e.b.drop 0).take (min e.b.length 40 - 0) = e.b.take 40 := by rw [List.drop_zero, Nat.sub_zero, Nat.min_comm, ← List.take_take, List.take_length]
      have hbm := Bytes.cast hcut hs61
      have hme : madeE e = ⟨K, (bitsF e.a 1048575), 0, (e.b.take 40)⟩ := made_of hK (.inr ⟨h28, rfl⟩) (.inr ⟨h38, rfl⟩) (.inl ⟨h48, rfl⟩)
      have hst : (l.take (k + 1)).map madeE = (l.take k).map madeE ++ [⟨K, (bitsF e.a 1048575), 0, (e.b.take 40)⟩] := by rw [map_take_succ _ _ _ (by omega), ← hel, hme]
      have hcc := hec.snoc (e := ⟨K, (bitsF e.a 1048575), 0, (e.b.take 40)⟩) hbm
      refine O_nil ⟨_, ?_, [(0, _), (3, _), (4, _)], ⟨rfl, rfl, rfl, trivial⟩, ⟨k + 1, _, _, _, by omega, by omega, by rw [hst]; exact hcc, rfl, rfl, by rw [hst, flat_snoc, List.length_append]; exact hs.weak hs.le (Ghost.le.refl _) (List.sublist_append_left [_] _)⟩⟩
      omega
     ·
      dsimp only [cmpP] at h48
      refine O_nil (T_kp [0, 3, 4, 5, 48] rfl ?_)
      refine T_condF rfl (T_skip ?_)
      refine T_region rfl ?_
      refine O_m rfl ?_
      refine O_y hs (Y_ldA 0 Tryz.isAgg36 Tryz.sizeOf36 rfl rfl (vs := [_, _, _, _]) rfl rfl ?_)
      refine O_s (S_lit hs Tryz.underlying22 Tryz.sizeOf36 Tryz.zeroValue36 rfl rfl (by decide) (by decide) rfl (cs := [_, _, _, _]) rfl rfl fun v5 _ hs _ => ?_)
      obtain ⟨_, hG65, hl65, hs⟩ := hs.fixRow noM
      replace hx := hx.mono hG65
      replace hec := hec.mono hG65
      replace hbe31 := hbe31.mono hG65
      have hs := hs.f1
      refine O_s (S_append hs Tryz.underlying22 TI36 rfl (by decide) rfl rfl (hl65) (one4') (by rw [List.length_map, List.length_take]; omega) (by rw [List.length_map, List.length_take]; omega) fun v6 _ hs => ?_)
      refine O_a rfl ?_
      refine O_nil (T_kp [0, 3, 4] rfl ?_)
      refine T_region rfl ?_
      refine O_m rfl ?_
      refine O_y hs (Y_add (c := ((k + 1 : Nat) : Int)) rfl rfl (by omega) (by omega) ?_)
      refine O_a rfl ?_
      have hbm : True := trivial
      have hme : madeE e = ⟨K, (bitsF e.a 1048575), 0, []⟩ := made_of hK (.inr ⟨h28, rfl⟩) (.inr ⟨h38, rfl⟩) (.inr ⟨h48, rfl⟩)
      have hst : (l.take (k + 1)).map madeE = (l.take k).map madeE ++ [⟨K, (bitsF e.a 1048575), 0, []⟩] := by rw [map_take_succ _ _ _ (by omega), ← hel, hme]
      have hcc := hec.snoc (e := ⟨K, (bitsF e.a 1048575), 0, []⟩) (show Bytes _ (.slice none 0 0) [] from Sl.nil _ _)
      refine O_nil ⟨_, ?_, [(0, _), (3, _), (4, _)], ⟨rfl, rfl, rfl, trivial⟩, ⟨k + 1, _, _, _, by omega, by omega, by rw [hst]; exact hcc, rfl, rfl, by rw [hst, flat_snoc, List.length_append]; exact hs.weak hs.le (Ghost.le.refl _) (List.sublist_append_left [_] _)⟩⟩
      omega
    ·
     refine O_nil (T_kp [0, 3, 4, 5, 38] rfl ?_)
     refine T_condT rfl (T_region rfl ?_)
     refine O_m rfl ?_
     refine O_m rfl ?_
     refine O_y hs (Y_idxS hx k Tryz.underlying22 Tryz.sizeOf36 rfl rfl rfl (by omega) fun p41 c41 hp41 hc41 hR41 => ?_)
     obtain ⟨ve41, rfl, hbe41⟩ := hR41
     rw [← hel] at hp41 hbe41
     obtain ⟨A41, c41, rfl, _⟩ := id hbe41
     refine O_y hs (Y_fieldAddrP FO36_2 rfl ?_)
     refine O_y hs (Y_ldG Tryz.isAgg3 rfl (hp41 2 (.int .i64 e.c) rfl) ?_)
     refine O_y hs (Y_bits (c := bitsF e.c 1048575) rfl rfl (.inl rfl) rfl ?_)
     refine O_y hs (Y_fieldAddr FO36_2 rfl (m := 2) rfl ?_)
     refine O_n (S_st hs Tryz.sizeOf3 rfl rfl rfl (by simp) (cs' := [_, _, _, _]) rfl fun _ hs => ?_)
     refine O_nil (T_kp [0, 3, 4, 5] rfl ?_)
     refine T_seq (T_seq (T_region rfl ?_))
     refine O_y hs (Y_fieldAddr FO36_0 rfl (m := 0) rfl ?_)
     refine O_y hs (Y_ld 0 Tryz.isAgg3 rfl rfl rfl ?_)
     refine O_y hs (Y_cmpS rfl rfl rfl (fun h48 => ?_) (fun h48 => ?_))
     ·
      dsimp only [cmpP] at h48
      refine O_nil (T_kp [0, 3, 4, 5, 48] rfl ?_)
      refine T_condT rfl (T_drawS [0, 1, 2, 3, 4, 5, 6, 7, 8, 9, 10, 11, 12, 13] hs (by kernel_rfl) ?_)
      replace hs := hs.drew
      refine A_take 0 rfl (by kernel_rfl) rfl hs (Y_move rfl ?_)
      refine A_take 1 rfl (by kernel_rfl) rfl hs (Y_move rfl ?_)
      refine A_take 2 rfl (by kernel_rfl) rfl hs (Y_idxS hx k Tryz.underlying22 Tryz.sizeOf36 rfl rfl rfl (by omega) fun p51 c51 hp51 hc51 hR51 => ?_)
      obtain ⟨ve51, rfl, hbe51⟩ := hR51
      rw [← hel] at hp51 hbe51
      obtain ⟨A51, c51, rfl, _⟩ := id hbe51
      refine A_take 3 rfl (by kernel_rfl) rfl hs (Y_fieldAddrP FO36_3 rfl ?_)
      refine A_take 4 rfl (by kernel_rfl) rfl hs (Y_ldG Tryz.isAgg25 rfl (hp51 3 (.slice A51 e.b.length c51) rfl) ?_)
      refine A_take 5 rfl (by kernel_rfl) rfl hs (Y_move rfl ?_)
      refine A_take 6 rfl (by kernel_rfl) rfl hs (Y_move rfl ?_)
      refine A_take 7 rfl (by kernel_rfl) rfl hs (Y_idxS hx k Tryz.underlying22 Tryz.sizeOf36 rfl rfl rfl (by omega) fun p56 c56 hp56 hc56 hR56 => ?_)
      obtain ⟨ve56, rfl, hbe56⟩ := hR56
      rw [← hel] at hp56 hbe56
      obtain ⟨A56, c56, rfl, _⟩ := id hbe56
      refine A_take 8 rfl (by kernel_rfl) rfl hs (Y_fieldAddrP FO36_3 rfl ?_)
      refine A_take 9 rfl (by kernel_rfl) rfl hs (Y_ldG Tryz.isAgg25 rfl (hp56 3 (.slice A56 e.b.length c56) rfl) ?_)
      refine A_take 10 rfl (by kernel_rfl) rfl hs (Y_len Tryz.underlying25 rfl ?_)
      refine A_take 11 rfl (by kernel_rfl) rfl hs (Y_min (c := ((min e.b.length 40 : Nat) : Int)) rfl rfl (by omega) ?_)
      refine A_take 12 rfl (by kernel_rfl) rfl hs (Y_sliceB hbe51 0 (min e.b.length 40) Tryz.underlying25 Tryz.sizeOf5 rfl rfl ⟨_, _, rfl, rfl⟩ (by omega) (by omega) fun s61 hs61 => ?_)
      obtain ⟨A61, c61, rfl, _⟩ := id hs61
      refine A_take 13 rfl (by kernel_rfl) rfl hs (Y_fieldAddr FO36_3 rfl (m := 3) rfl ?_)
      refine A_tailN 14 rfl (by kernel_rfl) (by kernel_rfl) rfl (S_st hs Tryz.sizeOf25 rfl rfl rfl (by simp) (cs' := [_, _, _, _]) rfl fun _ hs => ?_)
      refine A_done (by kernel_rfl) (T_kp [0, 3, 4, 5] rfl ?_)
      refine T_region rfl ?_
      refine O_m rfl ?_
      refine O_y hs (Y_ldA 0 Tryz.isAgg36 Tryz.sizeOf36 rfl rfl (vs := [_, _, _, _]) rfl rfl ?_)
      refine O_s (S_lit hs Tryz.underlying22 Tryz.sizeOf36 Tryz.zeroValue36 rfl rfl (by decide) (by decide) rfl (cs := [_, _, _, _]) rfl rfl fun v7 _ hs _ => ?_)
      obtain ⟨_, hG65, hl65, hs⟩ := hs.fixRow noM
      replace hx := hx.mono hG65
      replace hec := hec.mono hG65
      replace hbe31 := hbe31.mono hG65
      replace hbe41 := hbe41.mono hG65
      replace hbe51 := hbe51.mono hG65
      replace hbe56 := hbe56.mono hG65
      replace hs61 := hs61.mono hG65
      have hs := hs.f1
      refine O_s (S_append hs Tryz.underlying22 TI36 rfl (by decide) rfl rfl (hl65) (one4') (by rw [List.length_map, List.length_take]; omega) (by rw [List.length_map, List.length_take]; omega) fun v8 _ hs => ?_)
      refine O_a rfl ?_
      refine O_nil (T_kp [0, 3, 4] rfl ?_)
      refine T_region rfl ?_
      refine O_m rfl ?_
      refine O_y hs (Y_add (c := ((k + 1 : Nat) : Int)) rfl rfl (by omega) (by omega) ?_)
      refine O_a rfl ?_
      have hcut : (e.b.drop 0).take (min e.b.length 40 - 0) = e.b.take 40 := by rw [List.drop_zero, Nat.sub_zero, Nat.min_comm, ← List.take_take, List.take_length]
      have hbm := Bytes.cast hcut hs61
      have hme : madeE e = ⟨K, (bitsF e.a 1048575), (bitsF e.c 1048575), (e.b.take 40)⟩ := made_of hK (.inr ⟨h28, rfl⟩) (.inl ⟨h38, rfl⟩) (.inl ⟨h48, rfl⟩)
      have hst : (l.take (k + 1)).map madeE = (l.take k).map madeE ++ [⟨K, (bitsF e.a 1048575), (bitsF e.c 1048575), (e.b.take 40)⟩] := by rw [map_take_succ _ _ _ (by omega), ← hel, hme]
      have hcc := hec.snoc (e := ⟨K, (bitsF e.a 1048575), (bitsF e.c 1048575), (e.b.take 40)⟩) hbm
      refine O_nil ⟨_, ?_, [(0, _), (3, _), (4, _)], ⟨rfl, rfl, rfl, trivial⟩, ⟨k + 1, _, _, _, by omega, by omega, by rw [hst]; exact hcc, rfl, rfl, by rw [hst, flat_snoc, List.length_append]; exact hs.weak hs.le (Ghost.le.refl _) (List.sublist_append_left [_] _)⟩⟩
      omega
     ·
      dsimp only [cmpP] at h48
      refine O_nil (T_kp [0, 3, 4, 5, 48] rfl ?_)
      refine T_condF rfl (T_skip ?_)
      refine T_region rfl ?_
      refine O_m rfl ?_
      refine O_y hs (Y_ldA 0 Tryz.isAgg36 Tryz.sizeOf36 rfl rfl (vs := [_, _, _, _]) rfl rfl ?_)
      refine O_s (S_lit hs Tryz.underlying22 Tryz.sizeOf36 Tryz.zeroValue36 rfl rfl (by decide) (by decide) rfl (cs := [_, _, _, _]) rfl rfl fun v9 _ hs _ => ?_)
      obtain ⟨_, hG65, hl65, hs⟩ := hs.fixRow noM
      replace hx := hx.mono hG65
      replace hec := hec.mono hG65
      replace hbe31 := hbe31.mono hG65
      replace hbe41 := hbe41.mono hG65
      have hs := hs.f1
      refine O_s (S_append hs Tryz.underlying22 TI36 rfl (by decide) rfl rfl (hl65) (one4') (by rw [List.length_map, List.length_take]; omega) (by rw [List.length_map, List.length_take]; omega) fun v10 _ hs => ?_)
      refine O_a rfl ?_
      refine O_nil (T_kp [0, 3, 4] rfl ?_)
      refine T_region rfl ?_
      refine O_m rfl ?_
      refine O_y hs (Y_add (c := ((k + 1 : Nat) : Int)) rfl rfl (by omega) (by omega) ?_)
      refine O_a rfl ?_
      have hbm : True := trivial
      have hme : madeE e = ⟨K, (bitsF e.a 1048575), (bitsF e.c 1048575), []⟩ := made_of hK (.inr ⟨h28, rfl⟩) (.inl ⟨h38, rfl⟩) (.inr ⟨h48, rfl⟩)
      have hst : (l.take (k + 1)).map madeE = (l.take k).map madeE ++ [⟨K, (bitsF e.a 1048575), (bitsF e.c 1048575), []⟩] := by rw [map_take_succ _ _ _ (by omega), ← hel, hme]
      have hcc := hec.snoc (e := ⟨K, (bitsF e.a 1048575), (bitsF e.c 1048575), []⟩) (show Bytes _ (.slice none 0 0) [] from Sl.nil _ _)
      refine O_nil ⟨_, ?_, [(0, _), (3, _), (4, _)], ⟨rfl, rfl, rfl, trivial⟩, ⟨k + 1, _, _, _, by omega, by omega, by rw [hst]; exact hcc, rfl, rfl, by rw [hst, flat_snoc, List.length_append]; exact hs.weak hs.le (Ghost.le.refl _) (List.sublist_append_left [_] _)⟩⟩
      omega
   ·
    dsimp only [cmpP] at h28
    refine O_nil (T_kp [0, 3, 4, 5, 28] rfl ?_)
    refine T_condF rfl (T_skip ?_)
    refine T_seq (T_seq (T_region rfl ?_))
    refine O_y hs (Y_fieldAddr FO36_0 rfl (m := 0) rfl ?_)
    refine O_y hs (Y_ld 0 Tryz.isAgg3 rfl rfl rfl ?_)
    refine O_s (S_call (H1 := []) hs rfl Tryz.func24 rfl (by kernel_rfl) (hasc_ok) fun v11 G' H' _ hR hG38 hs => ?_)
    obtain ⟨rfl, rfl⟩ := hR
    replace hs : St _ _ [_, _] _ := hs
    replace hx := hx.mono hG38
    replace hec := hec.mono hG38
    cases h38 : useC K.toNat
    ·
     refine O_nil (T_kp [0, 3, 4, 5, 38] rfl ?_)
     refine T_condF rfl (T_skip ?_)
     refine T_seq (T_seq (T_region rfl ?_))
     refine O_y hs (Y_fieldAddr FO36_0 rfl (m := 0) rfl ?_)
     refine O_y hs (Y_ld 0 Tryz.isAgg3 rfl rfl rfl ?_)
     refine O_y hs (Y_cmpS rfl rfl rfl (fun h48 => ?_) (fun h48 => ?_))
     ·
      dsimp only [cmpP] at h48
      refine O_nil (T_kp [0, 3, 4, 5, 48] rfl ?_)
      refine T_condT rfl (T_drawS [0, 1, 2, 3, 4, 5, 6, 7, 8, 9, 10, 11, 12, 13] hs (by kernel_rfl) ?_)
      replace hs := hs.drew
      refine A_take 0 rfl (by kernel_rfl) rfl hs (Y_move rfl ?_)
      refine A_take 1 rfl (by kernel_rfl) rfl hs (Y_move rfl ?_)
      refine A_take 2 rfl (by kernel_rfl) rfl hs (Y_idxS hx k Tryz.underlying22 Tryz.sizeOf36 rfl rfl rfl (by omega) fun p51 c51 hp51 hc51 hR51 => ?_)
      obtain ⟨ve51, rfl, hbe51⟩ := hR51
      rw [← hel] at hp51 hbe51
      obtain ⟨A51, c51, rfl, _⟩ := id hbe51
      refine A_take 3 rfl (by kernel_rfl) rfl hs (Y_fieldAddrP FO36_3 rfl ?_)
      refine A_take 4 rfl (by kernel_rfl) rfl hs (Y_ldG Tryz.isAgg25 rfl (hp51 3 (.slice A51 e.b.length c51) rfl) ?_)
      refine A_take 5 rfl (by kernel_rfl) rfl hs (Y_move rfl ?_)
      refine A_take 6 rfl (by kernel_rfl) rfl hs (Y_move rfl ?_)
      refine A_take 7 rfl (by kernel_rfl) rfl hs (Y_idxS hx k Tryz.underlying22 Tryz.sizeOf36 rfl rfl rfl (by omega) fun p56 c56 hp56 hc56 hR56 => ?_)
      obtain ⟨ve56, rfl, hbe56⟩ := hR56
      rw [← hel] at hp56 hbe56
      obtain ⟨A56, c56, rfl, _⟩ := id hbe56
      refine A_take 8 rfl (by kernel_rfl) rfl hs (Y_fieldAddrP FO36_3 rfl ?_)
      refine A_take 9 rfl (by kernel_rfl) rfl hs (Y_ldG Tryz.isAgg25 rfl (hp56 3 (.slice A56 e.b.length c56) rfl) ?_)
      refine A_take 10 rfl (by kernel_rfl) rfl hs (Y_len Tryz.underlying25 rfl ?_)
      refine A_take 11 rfl (by kernel_rfl) rfl hs (Y_min (c := ((min e.b.length 40 : Nat) : Int)) rfl rfl (by omega) ?_)
      refine A_take 12 rfl (by kernel_rfl) rfl hs (Y_sliceB hbe51 0 (min e.b.length 40) Tryz.underlying25 Tryz.sizeOf5 rfl rfl ⟨_, _, rfl, rfl⟩ (by omega) (by omega) fun s61 hs61 => ?_)
      obtain ⟨A61, c61, rfl, _⟩ := id hs61
      refine A_take 13 rfl (by kernel_rfl) rfl hs (Y_fieldAddr FO36_3 rfl (m := 3) rfl ?_)
      refine A_tailN 14 rfl (by kernel_rfl) (by kernel_rfl) rfl (S_st hs Tryz.sizeOf25 rfl rfl rfl (by simp) (cs' := [_, _, _, _]) rfl fun _ hs => ?_)
      refine A_done (by kernel_rfl) (T_kp [0, 3, 4, 5] rfl ?_)
      refine T_region rfl ?_
      refine O_m rfl ?_
      refine O_y hs (Y_ldA 0 Tryz.isAgg36 Tryz.sizeOf36 rfl rfl (vs := [_, _, _, _]) rfl rfl ?_)
      refine O_s (S_lit hs Tryz.underlying22 Tryz.sizeOf36 Tryz.zeroValue36 rfl rfl (by decide) (by decide) rfl (cs := [_, _, _, _]) rfl rfl fun v12 _ hs _ => ?_)
      obtain ⟨_, hG65, hl65, hs⟩ := hs.fixRow noM
      replace hx := hx.mono hG65
      replace hec := hec.mono hG65
      replace hbe51 := hbe51.mono hG65
      replace hbe56 := hbe56.mono hG65
      replace hs61 := hs61.mono hG65
      have hs := hs.f1
      refine O_s (S_append hs Tryz.underlying22 TI36 rfl (by decide) rfl rfl (hl65) (one4') (by rw [List.length_map, List.length_take]; omega) (by rw [List.length_map, List.length_take]; omega) fun v13 _ hs => ?_)
      refine O_a rfl ?_
      refine O_nil (T_kp [0, 3, 4] rfl ?_)
      refine T_region rfl ?_
      refine O_m rfl ?_
      refine O_y hs (Y_add (c := ((k + 1 : Nat) : Int)) rfl rfl (by omega) (by omega) ?_)
      refine O_a rfl ?_
      have hcut : (e.b.drop 0).take (min e.b.length 40 - 0) = e.b.take 40 := by rw [List.drop_zero, Nat.sub_zero, Nat.min_comm, ← List.take_take, List.take_length]
      have hbm := Bytes.cast hcut hs61
      have hme : madeE e = ⟨K, 0, 0, (e.b.take 40)⟩ := made_of hK (.inl ⟨by omega, rfl⟩) (.inr ⟨h38, rfl⟩) (.inl ⟨h48, rfl⟩)
      have hst : (l.take (k + 1)).map madeE = (l.take k).map madeE ++ [⟨K, 0, 0, (e.b.take 40)⟩] := by rw [map_take_succ _ _ _ (by omega), ← hel, hme]
      have hcc := hec.snoc (e := ⟨K, 0, 0, (e.b.take 40)⟩) hbm
      refine O_nil ⟨_, ?_, [(0, _), (3, _), (4, _)], ⟨rfl, rfl, rfl, trivial⟩, ⟨k + 1, _, _, _, by omega, by omega, by rw [hst]; exact hcc, rfl, rfl, by rw [hst, flat_snoc, List.length_append]; exact hs.weak hs.le (Ghost.le.refl _) (List.sublist_append_left [_] _)⟩⟩
      omega
     ·
      dsimp only [cmpP] at h48
      refine O_nil (T_kp [0, 3, 4, 5, 48] rfl ?_)
      refine T_condF rfl (T_skip ?_)
      refine T_region rfl ?_
      refine O_m rfl ?_
      refine O_y hs (Y_ldA 0 Tryz.isAgg36 Tryz.sizeOf36 rfl rfl (vs := [_, _, _, _]) rfl rfl ?_)
      refine O_s (S_lit hs Tryz.underlying22 Tryz.sizeOf36 Tryz.zeroValue36 rfl rfl (by decide) (by decide) rfl (cs := [_, _, _, _]) rfl rfl fun v14 _ hs _ => ?_)
      obtain ⟨_, hG65, hl65, hs⟩ := hs.fixRow noM
      replace hx := hx.mono hG65
      replace hec := hec.mono hG65
      have hs := hs.f1
      refine O_s (S_append hs Tryz.underlying22 TI36 rfl (by decide) rfl rfl (hl65) (one4') (by rw [List.length_map, List.length_take]; omega) (by rw [List.length_map, List.length_take]; omega) fun v15 _ hs => ?_)
      refine O_a rfl ?_
      refine O_nil (T_kp [0, 3, 4] rfl ?_)
      refine T_region rfl ?_
      refine O_m rfl ?_
      refine O_y hs (Y_add (c := ((k + 1 : Nat) : Int)) rfl rfl (by omega) (by omega) ?_)
      refine O_a rfl ?_
      have hbm : True := trivial
      have hme : madeE e = ⟨K, 0, 0, []⟩ := made_of hK (.inl ⟨by omega, rfl⟩) (.inr ⟨h38, rfl⟩) (.inr ⟨h48, rfl⟩)
      have hst : (l.take (k + 1)).map madeE = (l.take k).map madeE ++ [⟨K, 0, 0, []⟩] := by rw [map_take_succ _ _ _ (by omega), ← hel, hme]
      have hcc := hec.snoc (e := ⟨K, 0, 0, []⟩) (show Bytes _ (.slice none 0 0) [] from Sl.nil _ _)
      refine O_nil ⟨_, ?_, [(0, _), (3, _), (4, _)], ⟨rfl, rfl, rfl, trivial⟩, ⟨k + 1, _, _, _, by omega, by omega, by rw [hst]; exact hcc, rfl, rfl, by rw [hst, flat_snoc, List.length_append]; exact hs.weak hs.le (Ghost.le.refl _) (List.sublist_append_left [_] _)⟩⟩
      omega
    ·
     refine O_nil (T_kp [0, 3, 4, 5, 38] rfl ?_)
     refine T_condT rfl (T_region rfl ?_)
     refine O_m rfl ?_
     refine O_m rfl ?_
     refine O_y hs (Y_idxS hx k Tryz.underlying22 Tryz.sizeOf36 rfl rfl rfl (by omega) fun p41 c41 hp41 hc41 hR41 => ?_)
     obtain ⟨ve41, rfl, hbe41⟩ := hR41
     rw [← hel] at hp41 hbe41
     obtain ⟨A41, c41, rfl, _⟩ := id hbe41
     refine O_y hs (Y_fieldAddrP FO36_2 rfl ?_)
     refine O_y hs (Y_ldG Tryz.isAgg3 rfl (hp41 2 (.int .i64 e.c) rfl) ?_)
     refine O_y hs (Y_bits (c := bitsF e.c 1048575) rfl rfl (.inl rfl) rfl ?_)
     refine O_y hs (Y_fieldAddr FO36_2 rfl (m := 2) rfl ?_)
     refine O_n (S_st hs Tryz.sizeOf3 rfl rfl rfl (by simp) (cs' := [_, _, _, _]) rfl fun _ hs => ?_)
     refine O_nil (T_kp [0, 3, 4, 5] rfl ?_)
     refine T_seq (T_seq (T_region rfl ?_))
     refine O_y hs (Y_fieldAddr FO36_0 rfl (m := 0) rfl ?_)
     refine O_y hs (Y_ld 0 Tryz.isAgg3 rfl rfl rfl ?_)
     refine O_y hs (Y_cmpS rfl rfl rfl (fun h48 => ?_) (fun h48 => ?_))
     ·
      dsimp only [cmpP] at h48
      refine O_nil (T_kp [0, 3, 4, 5, 48] rfl ?_)
      refine T_condT rfl (T_drawS [0, 1, 2, 3, 4, 5, 6, 7, 8, 9, 10, 11, 12, 13] hs (by kernel_rfl) ?_)
      replace hs := hs.drew
      refine A_take 0 rfl (by kernel_rfl) rfl hs (Y_move rfl ?_)
      refine A_take 1 rfl (by kernel_rfl) rfl hs (Y_move rfl ?_)
      refine A_take 2 rfl (by kernel_rfl) rfl hs (Y_idxS hx k Tryz.underlying22 Tryz.sizeOf36 rfl rfl rfl (by omega) fun p51 c51 hp51 hc51 hR51 => ?_)
      obtain ⟨ve51, rfl, hbe51⟩ := hR51
      rw [← hel] at hp51 hbe51
      obtain ⟨A51, c51, rfl, _⟩ := id hbe51
      refine A_take 3 rfl (by kernel_rfl) rfl hs (Y_fieldAddrP FO36_3 rfl ?_)
      refine A_take 4 rfl (by kernel_rfl) rfl hs (Y_ldG Tryz.isAgg25 rfl (hp51 3 (.slice A51 e.b.length c51) rfl) ?_)
      refine A_take 5 rfl (by kernel_rfl) rfl hs (Y_move rfl ?_)
      refine A_take 6 rfl (by kernel_rfl) rfl hs (Y_move rfl ?_)
      refine A_take 7 rfl (by kernel_rfl) rfl hs (Y_idxS hx k Tryz.underlying22 Tryz.sizeOf36 rfl rfl rfl (by omega) fun p56 c56 hp56 hc56 hR56 => ?_)
      obtain ⟨ve56, rfl, hbe56⟩ := hR56
      rw [← hel] at hp56 hbe56
      obtain ⟨A56, c56, rfl, _⟩ := id hbe56
      refine A_take 8 rfl (by kernel_rfl) rfl hs (Y_fieldAddrP FO36_3 rfl ?_)
      refine A_take 9 rfl (by kernel_rfl) rfl hs (Y_ldG Tryz.isAgg25 rfl (hp56 3 (.slice A56 e.b.length c56) rfl) ?_)
      refine A_take 10 rfl (by kernel_rfl) rfl hs (Y_len Tryz.underlying25 rfl ?_)
      refine A_take 11 rfl (by kernel_rfl) rfl hs (Y_min (c := ((min e.b.length 40 : Nat) : Int)) rfl rfl (by omega) ?_)
      refine A_take 12 rfl (by kernel_rfl) rfl hs (Y_sliceB hbe51 0 (min e.b.length 40) Tryz.underlying25 Tryz.sizeOf5 rfl rfl ⟨_, _, rfl, rfl⟩ (by omega) (by omega) fun s61 hs61 => ?_)
      obtain ⟨A61, c61, rfl, _⟩ := id hs61
      refine A_take 13 rfl (by kernel_rfl) rfl hs (Y_fieldAddr FO36_3 rfl (m := 3) rfl ?_)
      refine A_tailN 14 rfl (by kernel_rfl) (by kernel_rfl) rfl (S_st hs Tryz.sizeOf25 rfl rfl rfl (by simp) (cs' := [_, _, _, _]) rfl fun _ hs => ?_)
      refine A_done (by kernel_rfl) (T_kp [0, 3, 4, 5] rfl ?_)
      refine T_region rfl ?_
      refine O_m rfl ?_
      refine O_y hs (Y_ldA 0 Tryz.isAgg36 Tryz.sizeOf36 rfl rfl (vs := [_, _, _, _]) rfl rfl ?_)
      refine O_s (S_lit hs Tryz.underlying22 Tryz.sizeOf36 Tryz.zeroValue36 rfl rfl (by decide) (by decide) rfl (cs := [_, _, _, _]) rfl rfl fun v16 _ hs _ => ?_)
      obtain ⟨_, hG65, hl65, hs⟩ := hs.fixRow noM
      replace hx := hx.mono hG65
      replace hec := hec.mono hG65
      replace hbe41 := hbe41.mono hG65
      replace hbe51 := hbe51.mono hG65
      replace hbe56 := hbe56.mono hG65
      replace hs61 := hs61.mono hG65
      have hs := hs.f1
      refine O_s (S_append hs Tryz.underlying22 TI36 rfl (by decide) rfl rfl (hl65) (one4') (by rw [List.length_map, List.length_take]; omega) (by rw [List.length_map, List.length_take]; omega) fun v17 _ hs => ?_)
      refine O_a rfl ?_
      refine O_nil (T_kp [0, 3, 4] rfl ?_)
      refine T_region rfl ?_
      refine O_m rfl ?_
      refine O_y hs (Y_add (c := ((k + 1 : Nat) : Int)) rfl rfl (by omega) (by omega) ?_)
      refine O_a rfl ?_
      have hcut : (e.b.drop 0).take (min e.b.length 40 - 0) = e.b.take 40 := by rw [List.drop_zero, Nat.sub_zero, Nat.min_comm, ← List.take_take, List.take_length]
      have hbm := Bytes.cast hcut hs61
      have hme : madeE e = ⟨K, 0, (bitsF e.c 1048575), (e.b.take 40)⟩ := made_of hK (.inl ⟨by omega, rfl⟩) (.inl ⟨h38, rfl⟩) (.inl ⟨h48, rfl⟩)
      have hst : (l.take (k + 1)).map madeE = (l.take k).map madeE ++ [⟨K, 0, (bitsF e.c 1048575), (e.b.take 40)⟩] := by rw [map_take_succ _ _ _ (by omega), ← hel, hme]
      have hcc := hec.snoc (e := ⟨K, 0, (bitsF e.c 1048575), (e.b.take 40)⟩) hbm
      refine O_nil ⟨_, ?_, [(0, _), (3, _), (4, _)], ⟨rfl, rfl, rfl, trivial⟩, ⟨k + 1, _, _, _, by omega, by omega, by rw [hst]; exact hcc, rfl, rfl, by rw [hst, flat_snoc, List.length_append]; exact hs.weak hs.le (Ghost.le.refl _) (List.sublist_append_left [_] _)⟩⟩
      omega
     ·
      dsimp only [cmpP] at h48
      refine O_nil (T_kp [0, 3, 4, 5, 48] rfl ?_)
      refine T_condF rfl (T_skip ?_)
      refine T_region rfl ?_
      refine O_m rfl ?_
      refine O_y hs (Y_ldA 0 Tryz.isAgg36 Tryz.sizeOf36 rfl rfl (vs := [_, _, _, _]) rfl rfl ?_)
      refine O_s (S_lit hs Tryz.underlying22 Tryz.sizeOf36 Tryz.zeroValue36 rfl rfl (by decide) (by decide) rfl (cs := [_, _, _, _]) rfl rfl fun v18 _ hs _ => ?_)
      obtain ⟨_, hG65, hl65, hs⟩ := hs.fixRow noM
      replace hx := hx.mono hG65
      replace hec := hec.mono hG65
      replace hbe41 := hbe41.mono hG65
      have hs := hs.f1
      refine O_s (S_append hs Tryz.underlying22 TI36 rfl (by decide) rfl rfl (hl65) (one4') (by rw [List.length_map, List.length_take]; omega) (by rw [List.length_map, List.length_take]; omega) fun v19 _ hs => ?_)
      refine O_a rfl ?_
      refine O_nil (T_kp [0, 3, 4] rfl ?_)
      refine T_region rfl ?_
      refine O_m rfl ?_
      refine O_y hs (Y_add (c := ((k + 1 : Nat) : Int)) rfl rfl (by omega) (by omega) ?_)
      refine O_a rfl ?_
      have hbm : True := trivial
      have hme : madeE e = ⟨K, 0, (bitsF e.c 1048575), []⟩ := made_of hK (.inl ⟨by omega, rfl⟩) (.inl ⟨h38, rfl⟩) (.inr ⟨h48, rfl⟩)
      have hst : (l.take (k + 1)).map madeE = (l.take k).map madeE ++ [⟨K, 0, (bitsF e.c 1048575), []⟩] := by rw [map_take_succ _ _ _ (by omega), ← hel, hme]
      have hcc := hec.snoc (e := ⟨K, 0, (bitsF e.c 1048575), []⟩) (show Bytes _ (.slice none 0 0) [] from Sl.nil _ _)
      refine O_nil ⟨_, ?_, [(0, _), (3, _), (4, _)], ⟨rfl, rfl, rfl, trivial⟩, ⟨k + 1, _, _, _, by omega, by omega, by rw [hst]; exact hcc, rfl, rfl, by rw [hst, flat_snoc, List.length_append]; exact hs.weak hs.le (Ghost.le.refl _) (List.sublist_append_left [_] _)⟩⟩
      omega
  ·
   dsimp only [cmpP] at h13
   refine O_y hs (Y_pickT rfl rfl ?_)
   refine O_nil (T_kp [0, 3, 4, 14] rfl ?_)
   refine T_condF rfl (T_exit ?_)
   refine T_seq (T_region rfl ?_)
   refine O_m rfl ?_
   refine O_a rfl ?_
   refine O_nil (T_kp [2] rfl ?_)
   refine T_ret ?_
   refine Rt_fin (vs := [_]) Tryz.results13 rfl ⟨rfl, trivial⟩ ?_
   try dsimp only [tup]
   obtain ⟨G9, hG9, hf, hs⟩ := hs.fixRow noM
   have hkl : l.take k = l.take 20 := by rcases Nat.lt_or_ge k 20 with h | h; rw [List.take_of_length_le (by omega), List.take_of_length_le (by omega)]; rw [show k = 20 by omega]
   exact ⟨_, [], hs.done, rfl, by unfold madeL; rw [← hkl]; exact evs_of hf rfl rfl (hec.mono hG9)⟩
 ·
  dsimp only [cmpP] at h10
  refine O_m rfl ?_
  refine O_no 11 rfl rfl ?_
  refine O_no 11 rfl rfl ?_
  refine O_y hs (Y_pickF rfl rfl ?_)
  refine O_nil (T_kp [0, 3, 4, 14] rfl ?_)
  refine T_condF rfl (T_exit ?_)
  refine T_seq (T_region rfl ?_)
  refine O_m rfl ?_
  refine O_a rfl ?_
  refine O_nil (T_kp [2] rfl ?_)
  refine T_ret ?_
  refine Rt_fin (vs := [_]) Tryz.results13 rfl ⟨rfl, trivial⟩ ?_
  try dsimp only [tup]
  obtain ⟨G9, hG9, hf, hs⟩ := hs.fixRow noM
  have hkl : l.take k = l.take 20 := by rcases Nat.lt_or_ge k 20 with h | h; rw [List.take_of_length_le (by omega), List.take_of_length_le (by omega)]; rw [show k = 20 by omega]
  exact ⟨_, [], hs.done, rfl, by unfold madeL; rw [← hkl]; exact evs_of hf rfl rfl (hec.mono hG9)⟩

set_option maxHeartbeats 2000000 in
set_option maxRecDepth 10000 in
theorem same_ok {G : Ghost} {u v : Value} {a b : List Ev} (hx : Evs G u a) (hy : Evs G v b) (hla : a.length ≤ 1000000000) :
  FnOk Tryz.prog 16 [u, v] G [] fun r _ H' => H' = [] ∧ ∃ t : Bool, r = .bool t ∧ (t = true ↔ a = b) := by
 obtain ⟨A, cap, rfl⟩ := LstR.slice hx
 obtain ⟨B, cap2, rfl⟩ := LstR.slice hy
 refine FnOk.of_T [(0, _), (1, _)] Tryz.func16 rfl Tryz.ntmps16 (by simp) rfl fun w0 hs => ?_
 have hx0 := hx
 have hy0 := hy
 refine T_seq (T_region rfl ?_)
 refine O_a rfl ?_
 refine O_nil (T_kp [0, 1] rfl ?_)
 refine T_seq (T_seq (T_region rfl ?_))
 refine O_m rfl ?_
 refine O_y hs (Y_len Tryz.underlying22 rfl ?_)
 refine O_m rfl ?_
 refine O_y hs (Y_len Tryz.underlying22 rfl ?_)
 refine O_y hs (Y_cmpS rfl rfl rfl (fun h10 => ?_) (fun h10 => ?_))
 ·
  dsimp only [cmpP] at h10
  refine O_nil (T_kp [0, 1, 10] rfl ?_)
  refine T_condT rfl (T_seq (T_region rfl ?_))
  refine O_a rfl ?_
  refine O_nil (T_kp [4] rfl ?_)
  refine T_ret ?_
  refine Rt_fin (vs := [_]) Tryz.results16 rfl ⟨rfl, trivial⟩ ?_
  try dsimp only [tup]
  exact ⟨_, [], hs.done, rfl, _, rfl, by simp; intro h; rw [h] at h10; exact h10 rfl⟩
 ·
  dsimp only [cmpP] at h10
  refine O_nil (T_kp [0, 1, 10] rfl ?_)
  refine T_condF rfl (T_skip ?_)
  refine T_seq (T_seq (T_region rfl ?_))
  refine O_a rfl ?_
  refine O_nil (T_kp [0, 1, 5] rfl ?_)
  refine T_block (T_loop (fun m E w => ∃ (k : Nat) (G2 : Ghost), k ≤ a.length ∧ (∀ i (h1 : i < a.length) (h2 : i < b.length), i < k → a[i] = b[i]) ∧ m = a.length - k ∧ E = ⟨[], [(0, (.slice A a.length cap)), (1, (.slice B b.length cap2)), (5, .int .i64 (k : Int))]⟩ ∧ St ⟨w0, G, feet []⟩ G2 [] w) (L := [(0, _), (1, _), (5, _)]) ⟨rfl, rfl, rfl, trivial⟩ (⟨0, _, by omega, fun i _ _ h => absurd h (by omega), rfl, rfl, hs⟩) fun m E w hI => ?_)
  obtain ⟨k, G2, hk, hsa, rfl, rfl, hs⟩ := hI
  have hx := hx0.mono hs.le
  have hy := hy0.mono hs.le
  refine T_seq (T_seq (T_region rfl ?_))
  refine O_m rfl ?_
  refine O_m rfl ?_
  refine O_y hs (Y_len Tryz.underlying22 rfl ?_)
  refine O_y hs (Y_cmpS rfl rfl rfl (fun h14 => ?_) (fun h14 => ?_))
  ·
   dsimp only [cmpP] at h14
   refine O_nil (T_kp [0, 1, 5, 14] rfl ?_)
   refine T_condT rfl (T_skip ?_)
   obtain ⟨x, hex⟩ : ∃ e, e = a[k]'(by omega) := ⟨_, rfl⟩
   obtain ⟨y, hey⟩ : ∃ e, e = b[k]'(by omega) := ⟨_, rfl⟩
   refine T_seq (T_block (T_seq (T_drawS [0, 1, 2, 3, 4, 5, 6, 7, 8, 9, 10, 11, 12, 13, 14, 15, 16, 17, 18, 19, 20, 21, 22, 23, 24, 25, 26, 27, 28, 29, 30, 31, 32, 33, 34, 35, 36, 37, 38, 39, 40, 41, 42, 43, 44, 45, 46, 47, 48, 49, 50, 51] hs (by kernel_rfl) ?_)))
   replace hs := hs.drew
   refine A_take 0 rfl (by kernel_rfl) rfl hs (Y_move rfl ?_)
   refine A_take 1 rfl (by kernel_rfl) rfl hs (Y_move rfl ?_)
   refine A_take 2 rfl (by kernel_rfl) rfl hs (Y_idxS hx k Tryz.underlying22 Tryz.sizeOf36 rfl rfl rfl (by omega) fun p19 c19 hp19 hc19 hR19 => ?_)
   obtain ⟨ve19, rfl, hbe19⟩ := hR19
   rw [← hex] at hp19 hbe19
   refine A_take 3 rfl (by kernel_rfl) rfl hs (Y_fieldAddrP FO36_0 rfl ?_)
   refine A_take 4 rfl (by kernel_rfl) rfl hs (Y_ldG Tryz.isAgg3 rfl (hp19 0 (.int .i64 x.kind) rfl) ?_)
   refine A_take 5 rfl (by kernel_rfl) rfl hs (Y_move rfl ?_)
   refine A_take 6 rfl (by kernel_rfl) rfl hs (Y_move rfl ?_)
   refine A_take 7 rfl (by kernel_rfl) rfl hs (Y_idxS hy k Tryz.underlying22 Tryz.sizeOf36 rfl rfl rfl (by omega) fun p24 c24 hp24 hc24 hR24 => ?_)
   obtain ⟨ve24, rfl, hbe24⟩ := hR24
   rw [← hey] at hp24 hbe24
   refine A_take 8 rfl (by kernel_rfl) rfl hs (Y_fieldAddrP FO36_0 rfl ?_)
   refine A_take 9 rfl (by kernel_rfl) rfl hs (Y_ldG Tryz.isAgg3 rfl (hp24 0 (.int .i64 y.kind) rfl) ?_)
   refine A_take 10 rfl (by kernel_rfl) rfl hs (Y_cmpS rfl rfl rfl (fun h27 => ?_) (fun h27 => ?_))
   ·
    dsimp only [cmpP] at h27
    refine A_take 11 rfl (by kernel_rfl) rfl hs (Y_move rfl ?_)
    refine A_skip 12 rfl (by kernel_rfl) rfl hs ?_
    refine A_skip 13 rfl (by kernel_rfl) rfl hs ?_
    refine A_skip 14 rfl (by kernel_rfl) rfl hs ?_
    refine A_skip 15 rfl (by kernel_rfl) rfl hs ?_
    refine A_skip 16 rfl (by kernel_rfl) rfl hs ?_
    refine A_skip 17 rfl (by kernel_rfl) rfl hs ?_
    refine A_skip 18 rfl (by kernel_rfl) rfl hs ?_
    refine A_skip 19 rfl (by kernel_rfl) rfl hs ?_
    refine A_skip 20 rfl (by kernel_rfl) rfl hs ?_
    refine A_skip 21 rfl (by kernel_rfl) rfl hs ?_
    refine A_skip 22 rfl (by kernel_rfl) rfl hs ?_
    refine A_take 23 rfl (by kernel_rfl) rfl hs (Y_pickT rfl rfl ?_)
    refine A_take 24 rfl (by kernel_rfl) rfl hs (Y_move rfl ?_)
    refine A_skip 25 rfl (by kernel_rfl) rfl hs ?_
    refine A_skip 26 rfl (by kernel_rfl) rfl hs ?_
    refine A_skip 27 rfl (by kernel_rfl) rfl hs ?_
    refine A_skip 28 rfl (by kernel_rfl) rfl hs ?_
    refine A_skip 29 rfl (by kernel_rfl) rfl hs ?_
    refine A_skip 30 rfl (by kernel_rfl) rfl hs ?_
    refine A_skip 31 rfl (by kernel_rfl) rfl hs ?_
    refine A_skip 32 rfl (by kernel_rfl) rfl hs ?_
    refine A_skip 33 rfl (by kernel_rfl) rfl hs ?_
    refine A_skip 34 rfl (by kernel_rfl) rfl hs ?_
    refine A_skip 35 rfl (by kernel_rfl) rfl hs ?_
    refine A_take 36 rfl (by kernel_rfl) rfl hs (Y_pickT rfl rfl ?_)
    refine A_take 37 rfl (by kernel_rfl) rfl hs (Y_move rfl ?_)
    refine A_skip 38 rfl (by kernel_rfl) rfl hs ?_
    refine A_skip 39 rfl (by kernel_rfl) rfl hs ?_
    refine A_skip 40 rfl (by kernel_rfl) rfl hs ?_
    refine A_skip 41 rfl (by kernel_rfl) rfl hs ?_
    refine A_skip 42 rfl (by kernel_rfl) rfl hs ?_
    refine A_skip 43 rfl (by kernel_rfl) rfl hs ?_
    refine A_skip 44 rfl (by kernel_rfl) rfl hs ?_
    refine A_skip 45 rfl (by kernel_rfl) rfl hs ?_
    refine A_skip 46 rfl (by kernel_rfl) rfl hs ?_
    refine A_skip 47 rfl (by kernel_rfl) rfl hs ?_
    refine A_skip 48 rfl (by kernel_rfl) rfl hs ?_
    refine A_skip 49 rfl (by kernel_rfl) rfl hs ?_
    refine A_skip 50 rfl (by kernel_rfl) rfl hs ?_
    refine A_take 51 rfl (by kernel_rfl) rfl hs (Y_pickT rfl rfl ?_)
    refine A_done (by kernel_rfl) (T_kp [0, 1, 5, 68] rfl ?_)
    refine T_condT rfl (T_seq (T_region rfl ?_))
    refine O_a rfl ?_
    refine O_nil (T_kp [4] rfl ?_)
    refine T_ret ?_
    refine Rt_fin (vs := [_]) Tryz.results16 rfl ⟨rfl, trivial⟩ ?_
    try dsimp only [tup]
    have hne : x ≠ y := fun h => by subst h; exact absurd rfl h27
    exact ⟨_, [], hs.done, rfl, _, rfl, by simp; intro h; subst h; exact hne (hex.trans hey.symm)⟩
   ·
    dsimp only [cmpP] at h27
    refine A_take 11 rfl (by kernel_rfl) rfl hs (Y_move rfl ?_)
    refine A_take 12 rfl (by kernel_rfl) rfl hs (Y_move rfl ?_)
    refine A_take 13 rfl (by kernel_rfl) rfl hs (Y_move rfl ?_)
    refine A_take 14 rfl (by kernel_rfl) rfl hs (Y_idxS hx k Tryz.underlying22 Tryz.sizeOf36 rfl rfl rfl (by omega) fun p31 c31 hp31 hc31 hR31 => ?_)
    obtain ⟨ve31, rfl, hbe31⟩ := hR31
    rw [← hex] at hp31 hbe31
    refine A_take 15 rfl (by kernel_rfl) rfl hs (Y_fieldAddrP FO36_1 rfl ?_)
    refine A_take 16 rfl (by kernel_rfl) rfl hs (Y_ldG Tryz.isAgg3 rfl (hp31 1 (.int .i64 x.a) rfl) ?_)
    refine A_take 17 rfl (by kernel_rfl) rfl hs (Y_move rfl ?_)
    refine A_take 18 rfl (by kernel_rfl) rfl hs (Y_move rfl ?_)
    refine A_take 19 rfl (by kernel_rfl) rfl hs (Y_idxS hy k Tryz.underlying22 Tryz.sizeOf36 rfl rfl rfl (by omega) fun p36 c36 hp36 hc36 hR36 => ?_)
    obtain ⟨ve36, rfl, hbe36⟩ := hR36
    rw [← hey] at hp36 hbe36
    refine A_take 20 rfl (by kernel_rfl) rfl hs (Y_fieldAddrP FO36_1 rfl ?_)
    refine A_take 21 rfl (by kernel_rfl) rfl hs (Y_ldG Tryz.isAgg3 rfl (hp36 1 (.int .i64 y.a) rfl) ?_)
    refine A_take 22 rfl (by kernel_rfl) rfl hs (Y_cmpS rfl rfl rfl (fun h39 => ?_) (fun h39 => ?_))
    ·
     dsimp only [cmpP] at h39
     refine A_take 23 rfl (by kernel_rfl) rfl hs (Y_pickF rfl rfl ?_)
     refine A_take 24 rfl (by kernel_rfl) rfl hs (Y_move rfl ?_)
     refine A_skip 25 rfl (by kernel_rfl) rfl hs ?_
     refine A_skip 26 rfl (by kernel_rfl) rfl hs ?_
     refine A_skip 27 rfl (by kernel_rfl) rfl hs ?_
     refine A_skip 28 rfl (by kernel_rfl) rfl hs ?_
     refine A_skip 29 rfl (by kernel_rfl) rfl hs ?_
     refine A_skip 30 rfl (by kernel_rfl) rfl hs ?_
     refine A_skip 31 rfl (by kernel_rfl) rfl hs ?_
     refine A_skip 32 rfl (by kernel_rfl) rfl hs ?_
     refine A_skip 33 rfl (by kernel_rfl) rfl hs ?_
     refine A_skip 34 rfl (by kernel_rfl) rfl hs ?_
     refine A_skip 35 rfl (by kernel_rfl) rfl hs ?_
     refine A_take 36 rfl (by kernel_rfl) rfl hs (Y_pickT rfl rfl ?_)
     refine A_take 37 rfl (by kernel_rfl) rfl hs (Y_move rfl ?_)
     refine A_skip 38 rfl (by kernel_rfl) rfl hs ?_
     refine A_skip 39 rfl (by kernel_rfl) rfl hs ?_
     refine A_skip 40 rfl (by kernel_rfl) rfl hs ?_
     refine A_skip 41 rfl (by kernel_rfl) rfl hs ?_
     refine A_skip 42 rfl (by kernel_rfl) rfl hs ?_
     refine A_skip 43 rfl (by kernel_rfl) rfl hs ?_
     refine A_skip 44 rfl (by kernel_rfl) rfl hs ?_
     refine A_skip 45 rfl (by kernel_rfl) rfl hs ?_
     refine A_skip 46 rfl (by kernel_rfl) rfl hs ?_
     refine A_skip 47 rfl (by kernel_rfl) rfl hs ?_
     refine A_skip 48 rfl (by kernel_rfl) rfl hs ?_
     refine A_skip 49 rfl (by kernel_rfl) rfl hs ?_
     refine A_skip 50 rfl (by kernel_rfl) rfl hs ?_
     refine A_take 51 rfl (by kernel_rfl) rfl hs (Y_pickT rfl rfl ?_)
     refine A_done (by kernel_rfl) (T_kp [0, 1, 5, 68] rfl ?_)
     refine T_condT rfl (T_seq (T_region rfl ?_))
     refine O_a rfl ?_
     refine O_nil (T_kp [4] rfl ?_)
     refine T_ret ?_
     refine Rt_fin (vs := [_]) Tryz.results16 rfl ⟨rfl, trivial⟩ ?_
     try dsimp only [tup]
     have hne : x ≠ y := fun h => by subst h; exact absurd rfl h39
     exact ⟨_, [], hs.done, rfl, _, rfl, by simp; intro h; subst h; exact hne (hex.trans hey.symm)⟩
    ·
     dsimp only [cmpP] at h39
     refine A_take 23 rfl (by kernel_rfl) rfl hs (Y_pickF rfl rfl ?_)
     refine A_take 24 rfl (by kernel_rfl) rfl hs (Y_move rfl ?_)
     refine A_take 25 rfl (by kernel_rfl) rfl hs (Y_move rfl ?_)
     refine A_take 26 rfl (by kernel_rfl) rfl hs (Y_move rfl ?_)
     refine A_take 27 rfl (by kernel_rfl) rfl hs (Y_idxS hx k Tryz.underlying22 Tryz.sizeOf36 rfl rfl rfl (by omega) fun p44 c44 hp44 hc44 hR44 => ?_)
     obtain ⟨ve44, rfl, hbe44⟩ := hR44
     rw [← hex] at hp44 hbe44
     refine A_take 28 rfl (by kernel_rfl) rfl hs (Y_fieldAddrP FO36_2 rfl ?_)
     refine A_take 29 rfl (by kernel_rfl) rfl hs (Y_ldG Tryz.isAgg3 rfl (hp44 2 (.int .i64 x.c) rfl) ?_)
     refine A_take 30 rfl (by kernel_rfl) rfl hs (Y_move rfl ?_)
     refine A_take 31 rfl (by kernel_rfl) rfl hs (Y_move rfl ?_)
     refine A_take 32 rfl (by kernel_rfl) rfl hs (Y_idxS hy k Tryz.underlying22 Tryz.sizeOf36 rfl rfl rfl (by omega) fun p49 c49 hp49 hc49 hR49 => ?_)
     obtain ⟨ve49, rfl, hbe49⟩ := hR49
     rw [← hey] at hp49 hbe49
     refine A_take 33 rfl (by kernel_rfl) rfl hs (Y_fieldAddrP FO36_2 rfl ?_)
     refine A_take 34 rfl (by kernel_rfl) rfl hs (Y_ldG Tryz.isAgg3 rfl (hp49 2 (.int .i64 y.c) rfl) ?_)
     refine A_take 35 rfl (by kernel_rfl) rfl hs (Y_cmpS rfl rfl rfl (fun h52 => ?_) (fun h52 => ?_))
     ·
      dsimp only [cmpP] at h52
      refine A_take 36 rfl (by kernel_rfl) rfl hs (Y_pickF rfl rfl ?_)
      refine A_take 37 rfl (by kernel_rfl) rfl hs (Y_move rfl ?_)
      refine A_skip 38 rfl (by kernel_rfl) rfl hs ?_
      refine A_skip 39 rfl (by kernel_rfl) rfl hs ?_
      refine A_skip 40 rfl (by kernel_rfl) rfl hs ?_
      refine A_skip 41 rfl (by kernel_rfl) rfl hs ?_
      refine A_skip 42 rfl (by kernel_rfl) rfl hs ?_
      refine A_skip 43 rfl (by kernel_rfl) rfl hs ?_
      refine A_skip 44 rfl (by kernel_rfl) rfl hs ?_
      refine A_skip 45 rfl (by kernel_rfl) rfl hs ?_
      refine A_skip 46 rfl (by kernel_rfl) rfl hs ?_
      refine A_skip 47 rfl (by kernel_rfl) rfl hs ?_
      refine A_skip 48 rfl (by kernel_rfl) rfl hs ?_
      refine A_skip 49 rfl (by kernel_rfl) rfl hs ?_
      refine A_skip 50 rfl (by kernel_rfl) rfl hs ?_
      refine A_take 51 rfl (by kernel_rfl) rfl hs (Y_pickT rfl rfl ?_)
      refine A_done (by kernel_rfl) (T_kp [0, 1, 5, 68] rfl ?_)
      refine T_condT rfl (T_seq (T_region rfl ?_))
      refine O_a rfl ?_
      refine O_nil (T_kp [4] rfl ?_)
      refine T_ret ?_
      refine Rt_fin (vs := [_]) Tryz.results16 rfl ⟨rfl, trivial⟩ ?_
      try dsimp only [tup]
      have hne : x ≠ y := fun h => by subst h; exact absurd rfl h52
      exact ⟨_, [], hs.done, rfl, _, rfl, by simp; intro h; subst h; exact hne (hex.trans hey.symm)⟩
     ·
      dsimp only [cmpP] at h52
      refine A_take 36 rfl (by kernel_rfl) rfl hs (Y_pickF rfl rfl ?_)
      refine A_take 37 rfl (by kernel_rfl) rfl hs (Y_move rfl ?_)
      refine A_take 38 rfl (by kernel_rfl) rfl hs (Y_move rfl ?_)
      refine A_take 39 rfl (by kernel_rfl) rfl hs (Y_move rfl ?_)
      refine A_take 40 rfl (by kernel_rfl) rfl hs (Y_idxS hx k Tryz.underlying22 Tryz.sizeOf36 rfl rfl rfl (by omega) fun p57 c57 hp57 hc57 hR57 => ?_)
      obtain ⟨ve57, rfl, hbe57⟩ := hR57
      rw [← hex] at hp57 hbe57
      refine A_take 41 rfl (by kernel_rfl) rfl hs (Y_fieldAddrP FO36_3 rfl ?_)
      refine A_take 42 rfl (by kernel_rfl) rfl hs (Y_ldG Tryz.isAgg25 rfl (hp57 3 (ve57) rfl) ?_)
      refine A_take 43 rfl (by kernel_rfl) rfl hs (Y_str (bs := x.b) Tryz.underlying25 Tryz.underlying5 Tryz.underlying9 rfl hbe57 ?_)
      refine A_take 44 rfl (by kernel_rfl) rfl hs (Y_move rfl ?_)
      refine A_take 45 rfl (by kernel_rfl) rfl hs (Y_move rfl ?_)
      refine A_take 46 rfl (by kernel_rfl) rfl hs (Y_idxS hy k Tryz.underlying22 Tryz.sizeOf36 rfl rfl rfl (by omega) fun p63 c63 hp63 hc63 hR63 => ?_)
      obtain ⟨ve63, rfl, hbe63⟩ := hR63
      rw [← hey] at hp63 hbe63
      refine A_take 47 rfl (by kernel_rfl) rfl hs (Y_fieldAddrP FO36_3 rfl ?_)
      refine A_take 48 rfl (by kernel_rfl) rfl hs (Y_ldG Tryz.isAgg25 rfl (hp63 3 (ve63) rfl) ?_)
      refine A_take 49 rfl (by kernel_rfl) rfl hs (Y_str (bs := y.b) Tryz.underlying25 Tryz.underlying5 Tryz.underlying9 rfl hbe63 ?_)
      refine A_take 50 rfl (by kernel_rfl) rfl hs (Y_strNeS rfl rfl (fun h67 => ?_) (fun h67 => ?_))
      ·
       refine A_take 51 rfl (by kernel_rfl) rfl hs (Y_pickF rfl rfl ?_)
       refine A_done (by kernel_rfl) (T_kp [0, 1, 5, 68] rfl ?_)
       refine T_condT rfl (T_seq (T_region rfl ?_))
       refine O_a rfl ?_
       refine O_nil (T_kp [4] rfl ?_)
       refine T_ret ?_
       refine Rt_fin (vs := [_]) Tryz.results16 rfl ⟨rfl, trivial⟩ ?_
       try dsimp only [tup]
       have hne : x ≠ y := fun h => by subst h; exact absurd rfl h67
       exact ⟨_, [], hs.done, rfl, _, rfl, by simp; intro h; subst h; exact hne (hex.trans hey.symm)⟩
      ·
       refine A_take 51 rfl (by kernel_rfl) rfl hs (Y_pickF rfl rfl ?_)
       refine A_done (by kernel_rfl) (T_kp [0, 1, 5, 68] rfl ?_)
       refine T_condF rfl (T_skip ?_)
       refine T_region rfl ?_
       refine O_m rfl ?_
       refine O_y hs (Y_add (c := ((k + 1 : Nat) : Int)) rfl rfl (by omega) (by omega) ?_)
       refine O_a rfl ?_
       have hxy : x = y := by cases x; cases y; simp only at h27 h39 h52 h67; simp only [Ev.mk.injEq]; exact ⟨by omega, by omega, by omega, h67⟩
       refine O_nil ⟨_, ?_, [(0, _), (1, _), (5, _)], ⟨rfl, rfl, rfl, trivial⟩, ⟨k + 1, _, by omega, fun i h1 h2 h3 => (Nat.lt_or_ge i k).elim (hsa i h1 h2) (fun h' => by have hik : i = k := (by omega); subst hik; rw [← hex, ← hey]; exact hxy), rfl, rfl, hs⟩⟩
       omega
  ·
   dsimp only [cmpP] at h14
   refine O_nil (T_kp [0, 1, 5, 14] rfl ?_)
   refine T_condF rfl (T_exit ?_)
   refine T_seq (T_region rfl ?_)
   refine O_a rfl ?_
   refine O_nil (T_kp [4] rfl ?_)
   refine T_ret ?_
   refine Rt_fin (vs := [_]) Tryz.results16 rfl ⟨rfl, trivial⟩ ?_
   try dsimp only [tup]
   exact ⟨_, [], hs.done, rfl, _, rfl, by simp; exact List.ext_getElem (by omega) fun i h1 h2 => hsa i h1 h2 (by omega)⟩

/-- The reference's parser: where it stands, its first error. -/
structure PS where
  p : Nat
  err : Int
  off : Nat
def PS.ex (st : PS) : Except Er Nat := if st.err = 0 then .ok st.p else .error (st.err, st.off)
def PS.fail (st : PS) (q : Nat) (e : Int) : PS := if st.err = 0 then ⟨st.p, e, q⟩ else st
/-- What a reader reads from where the parser stands. -/
def thenE {α : Type} (x : Except Er Nat) (r : Nat → Except Er α) : Except Er α :=
  match x with
  | .ok q => r q
  | .error e => .error e
/-- The parser has read a. -/
def Got {α : Type} (x : Except Er (α × Nat)) (st : PS) (a : α) : Prop :=
  match x with
  | .ok (b, q) => st.ex = .ok q ∧ a = b
  | .error e => st.ex = .error e
def Got1 (x : Except Er Nat) (st : PS) : Prop := st.ex = x
theorem ex_ok {st : PS} (h : st.err = 0) : st.ex = .ok st.p := if_pos h
theorem ex_no {st : PS} (h : ¬ st.err = 0) : st.ex = .error (st.err, st.off) := if_neg h
theorem ex_pos {st : PS} {q : Nat} (h : st.ex = .ok q) : st.err = 0 ∧ st.p = q := by
  unfold PS.ex at h
  by_cases h0 : st.err = 0
  · rw [if_pos h0] at h; injection h with h; exact ⟨h0, h⟩
  · rw [if_neg h0] at h; cases h
theorem ex_err {st : PS} {e : Er} (h : st.ex = .error e) : ¬ st.err = 0 ∧ e = (st.err, st.off) := by
  unfold PS.ex at h
  by_cases h0 : st.err = 0
  · rw [if_pos h0] at h; cases h
  · rw [if_neg h0] at h; injection h with h; exact ⟨h0, h.symm⟩
theorem fail_ok {st : PS} {q : Nat} {e : Int} (h : st.err = 0) (he : e ≠ 0) : (st.fail q e).ex = .error (e, q) := by
  unfold PS.fail; rw [if_pos h]; exact if_neg he
theorem fail_no {st : PS} {q : Nat} {e : Int} (h : ¬ st.err = 0) : st.fail q e = st := if_neg h
theorem fail_p {st : PS} {q : Nat} {e : Int} : (st.fail q e).p = st.p := by unfold PS.fail; split <;> rfl
theorem fail_ne {st : PS} {q : Nat} {e : Int} (he : e ≠ 0) : ¬ (st.fail q e).err = 0 := by
  unfold PS.fail; split
  · exact he
  · assumption


set_option maxHeartbeats 400000 in
set_option maxRecDepth 10000 in
theorem fail_ok_ {G : Ghost} {p q : Nat} {s : List UInt8} {st : PS} {e : Int} :
  FnOk Tryz.prog 49 [.pointer (some ⟨p, 0, none⟩), .int .i64 (q : Int), .int .i64 e] G [.blk p 70 [.string ⟨s.toArray⟩, .int .i64 (st.p : Int), .int .i64 st.err, .int .i64 (st.off : Int)]] fun r _ H' => H' = [.blk p 70 [.string ⟨s.toArray⟩, .int .i64 ((st.fail q e).p : Int), .int .i64 (st.fail q e).err, .int .i64 ((st.fail q e).off : Int)]] := by
 refine FnOk.of_T [(0, _), (1, _), (2, _)] Tryz.func49 rfl Tryz.ntmps49 (by simp) rfl fun w0 hs => ?_
 refine T_seq (T_region rfl ?_)
 refine O_m rfl ?_
 refine O_y hs (Y_nil rfl ?_)
 refine O_y hs (Y_fieldAddr FO70_2 rfl (m := 2) rfl ?_)
 refine O_y hs (Y_ld 0 Tryz.isAgg30 rfl rfl rfl ?_)
 refine O_y hs (Y_cmpS rfl rfl rfl (fun h10 => ?_) (fun h10 => ?_))
 ·
  dsimp only [cmpP] at h10
  refine O_nil (T_kp [0, 1, 2, 10] rfl ?_)
  refine T_condT rfl (T_seq (T_region rfl ?_))
  refine O_m rfl ?_
  refine O_m rfl ?_
  refine O_y hs (Y_nil rfl ?_)
  refine O_y hs (Y_fieldAddr FO70_2 rfl (m := 2) rfl ?_)
  refine O_n (S_st hs Tryz.sizeOf30 rfl rfl rfl (by simp) (cs' := [_, _, _, _]) rfl fun _ hs => ?_)
  refine O_nil (T_kp [0, 1] rfl ?_)
  refine T_region rfl ?_
  refine O_m rfl ?_
  refine O_m rfl ?_
  refine O_y hs (Y_nil rfl ?_)
  refine O_y hs (Y_fieldAddr FO70_3 rfl (m := 3) rfl ?_)
  refine O_n (S_st hs Tryz.sizeOf3 rfl rfl rfl (by simp) (cs' := [_, _, _, _]) rfl fun _ hs => ?_)
  refine O_nil (Rt_finN (vs := []) Tryz.results49 rfl trivial ?_)
  try dsimp only [tup]
  exact ⟨_, _, hs, by unfold PS.fail; rw [if_pos h10]⟩
 ·
  dsimp only [cmpP] at h10
  refine O_nil (T_kp [0, 1, 2, 10] rfl ?_)
  refine T_condF rfl (T_skip ?_)
  try dsimp only [Ex.sq, Ex.lp, Ex.bk]
  try rw [show Nat.beq _ _ = true from Nat.beq_refl _, cond_true]
  refine Rt_finN (vs := []) Tryz.results49 rfl trivial ?_
  try dsimp only [tup]
  exact ⟨_, _, hs, by rw [fail_no h10]⟩

theorem thenE_no {α : Type} {st : PS} {r : Nat → Except Er α} (h : ¬ st.err = 0) : thenE st.ex r = .error (st.err, st.off) := by unfold thenE; rw [ex_no h]
theorem thenE_ok {α : Type} {st : PS} {r : Nat → Except Er α} (h : st.err = 0) : thenE st.ex r = r st.p := by unfold thenE; rw [ex_ok h]
theorem Got.no {α : Type} {st : PS} {r : Nat → Except Er (α × Nat)} {a : α} (h : ¬ st.err = 0) : Got (thenE st.ex r) st a := by rw [thenE_no h]; exact ex_no h
theorem Got.err {α : Type} {st st' : PS} {r : Nat → Except Er (α × Nat)} {a : α} {e : Er} (h : st.err = 0) (hr : r st.p = .error e) (he : st'.ex = .error e) : Got (thenE st.ex r) st' a := by rw [thenE_ok h, hr]; exact he
theorem Got.ok {α : Type} {st st' : PS} {r : Nat → Except Er (α × Nat)} {a : α} {q : Nat} (h : st.err = 0) (hr : r st.p = .ok (a, q)) (he : st'.ex = .ok q) : Got (thenE st.ex r) st' a := by rw [thenE_ok h, hr]; exact ⟨he, rfl⟩
/-- A word that follows a space has been read. -/
theorem chain {α : Type} {s : List UInt8} {st st1 st2 : PS} {w : List UInt8} {f : List UInt8 → Nat → Nat → Except Er (α × Nat)} {F : Nat → Except Er (α × Nat)}
    (hF : ∀ q, F q = match expP s q 32 with | .error e => .error e | .ok q1 => match wordP s q1 with | .error e => .error e | .ok (w, q2) => f w q1 q2)
    (h1 : Got1 (thenE st.ex fun q => expP s q 32) st1) (h2 : Got (thenE st1.ex (wordP s)) st2 w) : thenE st.ex F = if st2.err = 0 then f w st1.p st2.p else .error (st2.err, st2.off) := by
  unfold Got1 at h1
  cases hx : st.ex with
  | error e =>
    rw [hx] at h1
    have h1' : st1.ex = .error e := h1
    rw [h1'] at h2
    have h2' : st2.ex = .error e := h2
    obtain ⟨h3, h4⟩ := ex_err h2'
    rw [if_neg h3, ← h4]; rfl
  | ok q =>
    rw [hx] at h1
    show F q = _
    rw [hF]
    have h1' : st1.ex = expP s q 32 := h1
    cases he : expP s q 32 with
    | error e =>
      rw [he] at h1'
      rw [h1'] at h2
      have h2' : st2.ex = .error e := h2
      obtain ⟨h3, h4⟩ := ex_err h2'
      rw [if_neg h3, ← h4]
    | ok q1 =>
      rw [he] at h1'
      obtain ⟨k1, k2⟩ := ex_pos h1'
      rw [h1'] at h2
      have h2' : Got (wordP s q1) st2 w := h2
      dsimp only
      cases hw : wordP s q1 with
      | error e =>
        rw [hw] at h2'
        have h3' : st2.ex = .error e := h2'
        obtain ⟨h3, h4⟩ := ex_err h3'
        rw [if_neg h3, ← h4]
      | ok r =>
        obtain ⟨w', q2⟩ := r
        rw [hw] at h2'
        obtain ⟨h3, rfl⟩ := h2'
        obtain ⟨k3, k4⟩ := ex_pos h3
        rw [if_pos k3, k2, k4]
theorem Got.of_eq {α : Type} {x y : Except Er (α × Nat)} {st : PS} {a : α} (h : x = y) (hg : Got y st a) : Got x st a := h ▸ hg
theorem num_chain {s : List UInt8} {st st1 st2 : PS} {w : List UInt8} (h1 : Got1 (thenE st.ex fun q => expP s q 32) st1) (h2 : Got (thenE st1.ex (wordP s)) st2 w) : thenE st.ex (numP s) = if st2.err = 0 then numV w st1.p st2.p else .error (st2.err, st2.off) := chain (f := numV) (fun _ => rfl) h1 h2
theorem byt_chain {s : List UInt8} {st st1 st2 : PS} {w : List UInt8} (h1 : Got1 (thenE st.ex fun q => expP s q 32) st1) (h2 : Got (thenE st1.ex (wordP s)) st2 w) : thenE st.ex (bytesP s) = if st2.err = 0 then hexW w st1.p st2.p else .error (st2.err, st2.off) := chain (f := hexW) (fun _ => rfl) h1 h2
theorem aP_skip {s : List UInt8} {u : Bool} {st : PS} (hu : u = false) : Got (thenE st.ex (aP s u)) st 0 := by
  cases hx : st.ex with
  | error e => exact hx
  | ok q => show Got (aP s u q) st 0; rw [aP_f hu]; exact ⟨hx, rfl⟩
theorem bP_skip {s : List UInt8} {u : Bool} {st : PS} (hu : u = false) : Got (thenE st.ex (bP s u)) st [] := by
  cases hx : st.ex with
  | error e => exact hx
  | ok q => show Got (bP s u q) st []; rw [bP_f hu]; exact ⟨hx, rfl⟩
theorem aP_read {s : List UInt8} {u : Bool} {st st' : PS} {n : Nat} (hu : u = true) (h : Got (thenE st.ex (numP s)) st' n) : Got (thenE st.ex (aP s u)) st' n := by
  rw [show aP s u = numP s from funext fun q => by unfold aP; rw [if_pos hu]]; exact h
theorem bP_read {s : List UInt8} {u : Bool} {st st' : PS} {b : List UInt8} (hu : u = true) (h : Got (thenE st.ex (bytesP s)) st' b) : Got (thenE st.ex (bP s u)) st' b := by
  rw [show bP s u = bytesP s from funext fun q => by unfold bP; rw [if_pos hu]]; exact h
theorem args_got {s b : List UInt8} {k a c : Nat} {st st1 st2 st3 st4 : PS} (h1 : Got (thenE st.ex (aP s (useA k))) st1 a) (h2 : Got (thenE st1.ex (bP s (useB k))) st2 b) (h3 : Got (thenE st2.ex (aP s (useC k))) st3 c) (h4 : Got1 (thenE st3.ex fun q => expP s q 10) st4) :
    Got (thenE st.ex (argsP s k)) st4 (⟨k, a, c, b⟩ : Ev) := by
  cases hx : st.ex with
  | error e =>
    rw [hx] at h1; have h1' : st1.ex = .error e := h1
    rw [h1'] at h2; have h2' : st2.ex = .error e := h2
    rw [h2'] at h3; have h3' : st3.ex = .error e := h3
    unfold Got1 at h4; rw [h3'] at h4; exact h4
  | ok q =>
    rw [hx] at h1; have h1' : Got (aP s (useA k) q) st1 a := h1
    show Got (argsP s k q) st4 _
    cases ra : aP s (useA k) q with
    | error e =>
      rw [ra] at h1'; have h1 : st1.ex = .error e := h1'
      rw [h1] at h2; have h2' : st2.ex = .error e := h2
      rw [h2'] at h3; have h3' : st3.ex = .error e := h3
      unfold Got1 at h4; rw [h3'] at h4; rw [args_ea ra]; exact h4
    | ok r =>
      obtain ⟨a', q1⟩ := r
      rw [ra] at h1'; obtain ⟨h1, rfl⟩ := h1'
      rw [h1] at h2; have h2' : Got (bP s (useB k) q1) st2 b := h2
      cases rb : bP s (useB k) q1 with
      | error e =>
        rw [rb] at h2'; have h2 : st2.ex = .error e := h2'
        rw [h2] at h3; have h3' : st3.ex = .error e := h3
        unfold Got1 at h4; rw [h3'] at h4; rw [args_eb ra rb]; exact h4
      | ok r =>
        obtain ⟨b', q2⟩ := r
        rw [rb] at h2'; obtain ⟨h2, rfl⟩ := h2'
        rw [h2] at h3; have h3' : Got (aP s (useC k) q2) st3 c := h3
        cases rc : aP s (useC k) q2 with
        | error e =>
          rw [rc] at h3'; have h3 : st3.ex = .error e := h3'
          unfold Got1 at h4; rw [h3] at h4; rw [args_ec ra rb rc]; exact h4
        | ok r =>
          obtain ⟨c', q3⟩ := r
          rw [rc] at h3'; obtain ⟨h3, rfl⟩ := h3'
          unfold Got1 at h4; rw [h3] at h4; have h4' : st4.ex = expP s q3 10 := h4
          cases he : expP s q3 10 with
          | error e => rw [args_ex ra rb rc he]; exact h4'.trans he
          | ok q4 => rw [args_ok ra rb rc he]; exact ⟨h4'.trans he, rfl⟩
theorem ev_word {s w : List UInt8} {st st1 : PS} {k : Nat} (h : Got (thenE st.ex (wordP s)) st1 w) (h1 : 1 ≤ k) (h9 : k ≤ 9) (hk : kwF k = w) (hw : ¬ st1.err = 0 → w = []) : thenE st.ex (eventP s) = thenE st1.ex (argsP s k) := by
  by_cases h0 : st1.err = 0
  · cases hx : st.ex with
    | error e => rw [hx] at h; exact absurd h0 (ex_err (show st1.ex = .error e from h)).1
    | ok q =>
      rw [hx] at h; have h' : Got (wordP s q) st1 w := h
      cases rw_ : wordP s q with
      | error e => rw [rw_] at h'; exact absurd h0 (ex_err (show st1.ex = .error e from h')).1
      | ok r =>
        obtain ⟨w', q1⟩ := r
        rw [rw_] at h'; obtain ⟨h2, rfl⟩ := h'
        show eventP s q = _
        rw [h2, ev_kind rw_ h1 h9 hk]; rfl
  · exact absurd (hk.trans (hw h0)) (kw_ne ⟨k, by omega⟩ h1)
theorem ev_unknown {s w : List UInt8} {st st1 : PS} {e : Ev} (h : Got (thenE st.ex (wordP s)) st1 w) (hk : kindF w = 0) (hp : st.err = 0 ∨ ¬ st1.err = 0) : Got (thenE st.ex (eventP s)) (st1.fail st.p 20) e := by
  cases hx : st.ex with
  | error e =>
    rw [hx] at h; have h1 : st1.ex = .error e := h
    rw [fail_no (ex_err h1).1]; exact h1
  | ok q =>
    obtain ⟨h00, rfl⟩ := ex_pos hx
    rw [hx] at h; have h' : Got (wordP s st.p) st1 w := h
    show Got (eventP s st.p) _ _
    cases rw_ : wordP s st.p with
    | error e => rw [rw_] at h'; have h1 : st1.ex = .error e := h'; rw [fail_no (ex_err h1).1, ev_e rw_]; exact h1
    | ok r =>
      obtain ⟨w', q1⟩ := r
      rw [rw_] at h'; obtain ⟨h2, rfl⟩ := h'
      rw [ev_zero rw_ hk]; exact fail_ok (ex_pos h2).1 (by decide)
theorem kw_inj : ∀ i j : Fin 10, 1 ≤ i.val → 1 ≤ j.val → kwF i.val = kwF j.val → i.val = j.val := by decide +kernel


set_option maxHeartbeats 400000 in
set_option maxRecDepth 10000 in
theorem rexp_ok {G : Ghost} {p : Nat} {s : List UInt8} {st : PS} (hq : st.p ≤ s.length) (hl : s.length ≤ 2000000) {b : UInt8} :
  FnOk Tryz.prog 52 [.pointer (some ⟨p, 0, none⟩), .int .u8 (b.toNat : Int)] G [.blk p 70 [.string ⟨s.toArray⟩, .int .i64 (st.p : Int), .int .i64 st.err, .int .i64 (st.off : Int)]] fun r _ H' => ∃ st', H' = [.blk p 70 [.string ⟨s.toArray⟩, .int .i64 (st'.p : Int), .int .i64 st'.err, .int .i64 (st'.off : Int)]] ∧ Got1 (thenE st.ex fun q => expP s q b) st' ∧ st'.p ≤ s.length := by
 have hsz := bsz s
 refine FnOk.of_T [(0, _), (1, _)] Tryz.func52 rfl Tryz.ntmps52 (by simp) rfl fun w0 hs => ?_
 refine T_seq (T_seq (T_region rfl ?_))
 refine O_m rfl ?_
 refine O_y hs (Y_nil rfl ?_)
 refine O_y hs (Y_fieldAddr FO70_2 rfl (m := 2) rfl ?_)
 refine O_y hs (Y_ld 0 Tryz.isAgg30 rfl rfl rfl ?_)
 refine O_y hs (Y_cmpS rfl rfl rfl (fun h8 => ?_) (fun h8 => ?_))
 ·
  dsimp only [cmpP] at h8
  refine O_nil (T_kp [0, 1, 8] rfl ?_)
  refine T_condT rfl (T_ret ?_)
  refine Rt_fin (vs := []) Tryz.results52 rfl trivial ?_
  try dsimp only [tup]
  exact ⟨_, _, hs, st, rfl, (ex_no h8).trans (thenE_no h8).symm, hq⟩
 ·
  dsimp only [cmpP] at h8
  have h8' : st.err = 0 := by omega
  refine O_nil (T_kp [0, 1, 8] rfl ?_)
  refine T_condF rfl (T_skip ?_)
  refine T_seq (T_seq (T_drawS [0, 1, 2, 3, 4, 5, 6, 7, 8, 9] hs (by kernel_rfl) ?_))
  replace hs := hs.drew
  refine A_take 0 rfl (by kernel_rfl) rfl hs (Y_move rfl ?_)
  refine A_take 1 rfl (by kernel_rfl) rfl hs (Y_nil rfl ?_)
  refine A_take 2 rfl (by kernel_rfl) rfl hs (Y_fieldAddr FO70_1 rfl (m := 1) rfl ?_)
  refine A_take 3 rfl (by kernel_rfl) rfl hs (Y_ld 0 Tryz.isAgg3 rfl rfl rfl ?_)
  refine A_take 4 rfl (by kernel_rfl) rfl hs (Y_move rfl ?_)
  refine A_take 5 rfl (by kernel_rfl) rfl hs (Y_nil rfl ?_)
  refine A_take 6 rfl (by kernel_rfl) rfl hs (Y_fieldAddr FO70_0 rfl (m := 0) rfl ?_)
  refine A_take 7 rfl (by kernel_rfl) rfl hs (Y_ld 0 Tryz.isAgg9 rfl rfl rfl ?_)
  refine A_take 8 rfl (by kernel_rfl) rfl hs (Y_lenS Tryz.underlying9 rfl ?_)
  refine A_take 9 rfl (by kernel_rfl) rfl hs (Y_cmpS rfl rfl rfl (fun h18 => ?_) (fun h18 => ?_))
  ·
   dsimp only [cmpP] at h18
   refine A_done (by kernel_rfl) (T_kp [0, 1, 18] rfl ?_)
   refine T_condT rfl (T_seq (T_region rfl ?_))
   refine O_m rfl ?_
   refine O_m rfl ?_
   refine O_y hs (Y_nil rfl ?_)
   refine O_y hs (Y_fieldAddr FO70_1 rfl (m := 1) rfl ?_)
   refine O_y hs (Y_ld 0 Tryz.isAgg3 rfl rfl rfl ?_)
   refine O_s (S_call (H1 := [_]) hs rfl Tryz.func49 rfl (by kernel_rfl) (fail_ok_ (st := st) (q := st.p) (e := 21)) fun v1 G' H' _ hR hG24 hs => ?_)
   obtain rfl := hR
   replace hs : St _ _ [_] _ := hs
   refine O_nil (T_kp [] rfl ?_)
   refine T_ret ?_
   refine Rt_fin (vs := []) Tryz.results52 rfl trivial ?_
   try dsimp only [tup]
   exact ⟨_, _, hs, st.fail st.p 21, rfl, (fail_ok h8' (by decide)).trans (((thenE_ok h8').trans (exp_end (by omega))).symm), by rw [fail_p]; exact hq⟩
  ·
   dsimp only [cmpP] at h18
   refine A_done (by kernel_rfl) (T_kp [0, 1, 18] rfl ?_)
   refine T_condF rfl (T_skip ?_)
   refine T_seq (T_seq (T_drawS [0, 1, 2, 3, 4, 5, 6, 7, 8, 9, 10] hs (by kernel_rfl) ?_))
   replace hs := hs.drew
   refine A_take 0 rfl (by kernel_rfl) rfl hs (Y_move rfl ?_)
   refine A_take 1 rfl (by kernel_rfl) rfl hs (Y_nil rfl ?_)
   refine A_take 2 rfl (by kernel_rfl) rfl hs (Y_fieldAddr FO70_0 rfl (m := 0) rfl ?_)
   refine A_take 3 rfl (by kernel_rfl) rfl hs (Y_ld 0 Tryz.isAgg9 rfl rfl rfl ?_)
   refine A_take 4 rfl (by kernel_rfl) rfl hs (Y_move rfl ?_)
   refine A_take 5 rfl (by kernel_rfl) rfl hs (Y_nil rfl ?_)
   refine A_take 6 rfl (by kernel_rfl) rfl hs (Y_fieldAddr FO70_1 rfl (m := 1) rfl ?_)
   refine A_take 7 rfl (by kernel_rfl) rfl hs (Y_ld 0 Tryz.isAgg3 rfl rfl rfl ?_)
   refine A_take 8 rfl (by kernel_rfl) rfl hs (Y_idxStr (b := s[st.p]'(by omega)) st.p Tryz.underlying9 rfl rfl rfl (str_at (List.getElem?_eq_getElem (by omega))) ?_)
   refine A_take 9 rfl (by kernel_rfl) rfl hs (Y_move rfl ?_)
   refine A_take 10 rfl (by kernel_rfl) rfl hs (Y_cmpS rfl rfl rfl (fun h35 => ?_) (fun h35 => ?_))
   ·
    dsimp only [cmpP] at h35
    refine A_done (by kernel_rfl) (T_kp [0, 35] rfl ?_)
    refine T_condT rfl (T_seq (T_region rfl ?_))
    refine O_m rfl ?_
    refine O_m rfl ?_
    refine O_y hs (Y_nil rfl ?_)
    refine O_y hs (Y_fieldAddr FO70_1 rfl (m := 1) rfl ?_)
    refine O_y hs (Y_ld 0 Tryz.isAgg3 rfl rfl rfl ?_)
    refine O_s (S_call (H1 := [_]) hs rfl Tryz.func49 rfl (by kernel_rfl) (fail_ok_ (st := st) (q := st.p) (e := 20)) fun v2 G' H' _ hR hG41 hs => ?_)
    obtain rfl := hR
    replace hs : St _ _ [_] _ := hs
    refine O_nil (T_kp [] rfl ?_)
    refine T_ret ?_
    refine Rt_fin (vs := []) Tryz.results52 rfl trivial ?_
    try dsimp only [tup]
    exact ⟨_, _, hs, st.fail st.p 20, rfl, (fail_ok h8' (by decide)).trans (((thenE_ok h8').trans (exp_bad (by omega) (fun h => h35 (by rw [h])))).symm), by rw [fail_p]; exact hq⟩
   ·
    dsimp only [cmpP] at h35
    refine A_done (by kernel_rfl) (T_kp [0, 35] rfl ?_)
    refine T_condF rfl (T_skip ?_)
    refine T_region rfl ?_
    refine O_m rfl ?_
    refine O_y hs (Y_nil rfl ?_)
    refine O_y hs (Y_fieldAddr FO70_1 rfl (m := 1) rfl ?_)
    refine O_y hs (Y_ld 0 Tryz.isAgg3 rfl rfl rfl ?_)
    refine O_y hs (Y_add (c := ((st.p + 1 : Nat) : Int)) rfl rfl (by omega) (by omega) ?_)
    refine O_y hs (Y_nil rfl ?_)
    refine O_y hs (Y_fieldAddr FO70_1 rfl (m := 1) rfl ?_)
    refine O_n (S_st hs Tryz.sizeOf3 rfl rfl rfl (by simp) (cs' := [_, _, _, _]) rfl fun _ hs => ?_)
    refine O_nil (Rt_finN (vs := []) Tryz.results52 rfl trivial ?_)
    try dsimp only [tup]
    exact ⟨_, _, hs, (⟨st.p + 1, st.err, st.off⟩ : PS), rfl, (ex_ok (st := (⟨st.p + 1, st.err, st.off⟩ : PS)) h8').trans (((thenE_ok h8').trans (exp_ok (by omega) (u8i (by omega)))).symm), by show st.p + 1 ≤ _; omega⟩

set_option maxHeartbeats 1000000 in
set_option maxRecDepth 10000 in
theorem rwrd_ok {G : Ghost} {p : Nat} {s : List UInt8} {st : PS} (hq : st.p ≤ s.length) (hl : s.length ≤ 2000000) :
  FnOk Tryz.prog 48 [.pointer (some ⟨p, 0, none⟩)] G [.blk p 70 [.string ⟨s.toArray⟩, .int .i64 (st.p : Int), .int .i64 st.err, .int .i64 (st.off : Int)]] fun r _ H' => ∃ (st' : PS) (w : List UInt8), H' = [.blk p 70 [.string ⟨s.toArray⟩, .int .i64 (st'.p : Int), .int .i64 st'.err, .int .i64 (st'.off : Int)]] ∧ r = .string ⟨w.toArray⟩ ∧ Got (thenE st.ex (wordP s)) st' w ∧ st'.p ≤ s.length ∧ (¬ st'.err = 0 → w = []) := by
 have hsz := bsz s
 have hwl := wL_le s st.p
 refine FnOk.of_T [(0, _)] Tryz.func48 rfl Tryz.ntmps48 (by simp) rfl fun w0 hs => ?_
 refine T_seq (T_region rfl ?_)
 refine O_a rfl ?_
 refine O_nil (T_kp [0] rfl ?_)
 refine T_seq (T_region rfl ?_)
 refine O_m rfl ?_
 refine O_y hs (Y_nil rfl ?_)
 refine O_y hs (Y_fieldAddr FO70_1 rfl (m := 1) rfl ?_)
 refine O_y hs (Y_ld 0 Tryz.isAgg3 rfl rfl rfl ?_)
 refine O_a rfl ?_
 refine O_nil (T_kp [0, 3] rfl ?_)
 refine T_seq (T_seq (T_region rfl ?_))
 refine O_m rfl ?_
 refine O_y hs (Y_nil rfl ?_)
 refine O_y hs (Y_fieldAddr FO70_2 rfl (m := 2) rfl ?_)
 refine O_y hs (Y_ld 0 Tryz.isAgg30 rfl rfl rfl ?_)
 refine O_y hs (Y_cmpS rfl rfl rfl (fun h12 => ?_) (fun h12 => ?_))
 ·
  dsimp only [cmpP] at h12
  refine O_nil (T_kp [0, 3, 12] rfl ?_)
  refine T_condT rfl (T_seq (T_region rfl ?_))
  refine O_a rfl ?_
  refine O_nil (T_kp [2] rfl ?_)
  refine T_ret ?_
  refine Rt_fin (vs := [_]) Tryz.results48 rfl ⟨rfl, trivial⟩ ?_
  try dsimp only [tup]
  exact ⟨_, _, hs, st, [], rfl, rfl, Got.no h12, hq, fun _ => rfl⟩
 ·
  dsimp only [cmpP] at h12
  have h8' : st.err = 0 := by omega
  refine O_nil (T_kp [0, 3, 12] rfl ?_)
  refine T_condF rfl (T_skip ?_)
  refine T_seq (T_seq (T_region rfl ?_))
  refine O_m rfl ?_
  refine O_m rfl ?_
  refine O_y hs (Y_nil rfl ?_)
  refine O_y hs (Y_fieldAddr FO70_0 rfl (m := 0) rfl ?_)
  refine O_y hs (Y_ld 0 Tryz.isAgg9 rfl rfl rfl ?_)
  refine O_y hs (Y_lenS Tryz.underlying9 rfl ?_)
  refine O_y hs (Y_cmpS rfl rfl rfl (fun h19 => ?_) (fun h19 => ?_))
  ·
   dsimp only [cmpP] at h19
   refine O_nil (T_kp [0, 3, 19] rfl ?_)
   refine T_condT rfl (T_seq (T_region rfl ?_))
   refine O_m rfl ?_
   refine O_m rfl ?_
   refine O_s (S_call (H1 := [_]) hs rfl Tryz.func49 rfl (by kernel_rfl) (fail_ok_ (st := st) (q := st.p) (e := 21)) fun v1 G' H' _ hR hG22 hs => ?_)
   obtain rfl := hR
   replace hs : St _ _ [_] _ := hs
   refine O_nil (T_kp [] rfl ?_)
   refine T_seq (T_region rfl ?_)
   refine O_a rfl ?_
   refine O_nil (T_kp [2] rfl ?_)
   refine T_ret ?_
   refine Rt_fin (vs := [_]) Tryz.results48 rfl ⟨rfl, trivial⟩ ?_
   try dsimp only [tup]
   exact ⟨_, _, hs, st.fail st.p 21, [], rfl, rfl, Got.err h8' (word_end (by omega)) (fail_ok h8' (by decide)), by rw [fail_p]; exact hq, fun _ => rfl⟩
  ·
   dsimp only [cmpP] at h19
   refine O_nil (T_kp [0, 3, 19] rfl ?_)
   refine T_condF rfl (T_skip ?_)
   refine T_seq (T_block (T_loop (fun m E w => ∃ (j : Nat), j ≤ (wL s st.p).length ∧ m = (wL s st.p).length - j ∧ E = ⟨[], [(0, .pointer (some ⟨p, 0, none⟩)), (3, .int .i64 (st.p : Int))]⟩ ∧ St ⟨w0, G, feet [.blk p 70 [.string ⟨s.toArray⟩, .int .i64 (st.p : Int), .int .i64 st.err, .int .i64 (st.off : Int)]]⟩ G [.blk p 70 [.string ⟨s.toArray⟩, .int .i64 ((st.p + j : Nat) : Int), .int .i64 st.err, .int .i64 (st.off : Int)]] w) (L := [(0, _), (3, _)]) ⟨rfl, rfl, trivial⟩ (⟨0, by omega, rfl, rfl, hs⟩) fun m E w hI => ?_))
   obtain ⟨j, hj, rfl, rfl, hs⟩ := hI
   refine T_seq (T_seq (T_drawS [0, 1, 2, 3, 4, 5, 6, 7, 8, 9, 10, 11, 12, 13, 14, 15, 16, 17, 18, 19, 20, 21, 22, 23, 24, 25, 26, 27, 28, 29, 30, 31, 32, 33] hs (by kernel_rfl) ?_))
   replace hs := hs.drew
   refine A_take 0 rfl (by kernel_rfl) rfl hs (Y_move rfl ?_)
   refine A_take 1 rfl (by kernel_rfl) rfl hs (Y_nil rfl ?_)
   refine A_take 2 rfl (by kernel_rfl) rfl hs (Y_fieldAddr FO70_1 rfl (m := 1) rfl ?_)
   refine A_take 3 rfl (by kernel_rfl) rfl hs (Y_ld 0 Tryz.isAgg3 rfl rfl rfl ?_)
   refine A_take 4 rfl (by kernel_rfl) rfl hs (Y_move rfl ?_)
   refine A_take 5 rfl (by kernel_rfl) rfl hs (Y_nil rfl ?_)
   refine A_take 6 rfl (by kernel_rfl) rfl hs (Y_fieldAddr FO70_0 rfl (m := 0) rfl ?_)
   refine A_take 7 rfl (by kernel_rfl) rfl hs (Y_ld 0 Tryz.isAgg9 rfl rfl rfl ?_)
   refine A_take 8 rfl (by kernel_rfl) rfl hs (Y_lenS Tryz.underlying9 rfl ?_)
   refine A_take 9 rfl (by kernel_rfl) rfl hs (Y_cmpS rfl rfl rfl (fun h32 => ?_) (fun h32 => ?_))
   ·
    dsimp only [cmpP] at h32
    refine A_take 10 rfl (by kernel_rfl) rfl hs (Y_move rfl ?_)
    refine A_take 11 rfl (by kernel_rfl) rfl hs (Y_move rfl ?_)
    refine A_take 12 rfl (by kernel_rfl) rfl hs (Y_nil rfl ?_)
    refine A_take 13 rfl (by kernel_rfl) rfl hs (Y_fieldAddr FO70_0 rfl (m := 0) rfl ?_)
    refine A_take 14 rfl (by kernel_rfl) rfl hs (Y_ld 0 Tryz.isAgg9 rfl rfl rfl ?_)
    refine A_take 15 rfl (by kernel_rfl) rfl hs (Y_move rfl ?_)
    refine A_take 16 rfl (by kernel_rfl) rfl hs (Y_nil rfl ?_)
    refine A_take 17 rfl (by kernel_rfl) rfl hs (Y_fieldAddr FO70_1 rfl (m := 1) rfl ?_)
    refine A_take 18 rfl (by kernel_rfl) rfl hs (Y_ld 0 Tryz.isAgg3 rfl rfl rfl ?_)
    refine A_take 19 rfl (by kernel_rfl) rfl hs (Y_idxStr (b := s[(st.p + j)]'(by omega)) (st.p + j) Tryz.underlying9 rfl rfl rfl (str_at (List.getElem?_eq_getElem (by omega))) ?_)
    refine A_take 20 rfl (by kernel_rfl) rfl hs (Y_cmpS rfl rfl rfl (fun h43 => ?_) (fun h43 => ?_))
    ·
     dsimp only [cmpP] at h43
     refine A_take 21 rfl (by kernel_rfl) rfl hs (Y_pickT rfl rfl ?_)
     refine A_take 22 rfl (by kernel_rfl) rfl hs (Y_move rfl ?_)
     refine A_take 23 rfl (by kernel_rfl) rfl hs (Y_move rfl ?_)
     refine A_take 24 rfl (by kernel_rfl) rfl hs (Y_nil rfl ?_)
     refine A_take 25 rfl (by kernel_rfl) rfl hs (Y_fieldAddr FO70_0 rfl (m := 0) rfl ?_)
     refine A_take 26 rfl (by kernel_rfl) rfl hs (Y_ld 0 Tryz.isAgg9 rfl rfl rfl ?_)
     refine A_take 27 rfl (by kernel_rfl) rfl hs (Y_move rfl ?_)
     refine A_take 28 rfl (by kernel_rfl) rfl hs (Y_nil rfl ?_)
     refine A_take 29 rfl (by kernel_rfl) rfl hs (Y_fieldAddr FO70_1 rfl (m := 1) rfl ?_)
     refine A_take 30 rfl (by kernel_rfl) rfl hs (Y_ld 0 Tryz.isAgg3 rfl rfl rfl ?_)
     refine A_take 31 rfl (by kernel_rfl) rfl hs (Y_idxStr (b := s[(st.p + j)]'(by omega)) (st.p + j) Tryz.underlying9 rfl rfl rfl (str_at (List.getElem?_eq_getElem (by omega))) ?_)
     refine A_take 32 rfl (by kernel_rfl) rfl hs (Y_cmpS rfl rfl rfl (fun h55 => ?_) (fun h55 => ?_))
     ·
      dsimp only [cmpP] at h55
      refine A_take 33 rfl (by kernel_rfl) rfl hs (Y_pickT rfl rfl ?_)
      refine A_done (by kernel_rfl) (T_kp [0, 3, 56] rfl ?_)
      refine T_condT rfl (T_skip ?_)
      refine T_block (T_region rfl ?_)
      refine O_m rfl ?_
      refine O_y hs (Y_nil rfl ?_)
      refine O_y hs (Y_fieldAddr FO70_1 rfl (m := 1) rfl ?_)
      refine O_y hs (Y_ld 0 Tryz.isAgg3 rfl rfl rfl ?_)
      refine O_y hs (Y_add (c := ((st.p + j + 1 : Nat) : Int)) rfl rfl (by omega) (by omega) ?_)
      refine O_y hs (Y_nil rfl ?_)
      refine O_y hs (Y_fieldAddr FO70_1 rfl (m := 1) rfl ?_)
      refine O_n (S_st hs Tryz.sizeOf3 rfl rfl rfl (by simp) (cs' := [_, _, _, _]) rfl fun _ hs => ?_)
      have hst := wL_step (by omega) hj (wB_t (fun h => h43 (by rw [h]; rfl)) (fun h => h55 (by rw [h]; rfl)))
      refine O_nil ⟨_, ?_, [(0, _), (3, _)], ⟨rfl, rfl, trivial⟩, ⟨j + 1, by omega, rfl, rfl, hs⟩⟩
      omega
     ·
      dsimp only [cmpP] at h55
      refine A_take 33 rfl (by kernel_rfl) rfl hs (Y_pickT rfl rfl ?_)
      refine A_done (by kernel_rfl) (T_kp [0, 3, 56] rfl ?_)
      refine T_condF rfl (T_exit ?_)
      have hjw : j = (wL s st.p).length := wL_stop hj (by right; exact ⟨by omega, wB_f (.inr (b10 (by omega)))⟩)
      refine T_seq (T_seq (T_region rfl ?_))
      refine O_m rfl ?_
      refine O_y hs (Y_nil rfl ?_)
      refine O_y hs (Y_fieldAddr FO70_1 rfl (m := 1) rfl ?_)
      refine O_y hs (Y_ld 0 Tryz.isAgg3 rfl rfl rfl ?_)
      refine O_m rfl ?_
      refine O_y hs (Y_cmpS rfl rfl rfl (fun h69 => ?_) (fun h69 => ?_))
      ·
       dsimp only [cmpP] at h69
       refine O_nil (T_kp [0, 3, 69] rfl ?_)
       refine T_condT rfl (T_region rfl ?_)
       refine O_m rfl ?_
       refine O_m rfl ?_
       refine O_s (S_call (H1 := [_]) hs rfl Tryz.func49 rfl (by kernel_rfl) (fail_ok_ (st := (⟨st.p + j, st.err, st.off⟩ : PS)) (q := st.p) (e := 20)) fun v2 G' H' _ hR hG72 hs => ?_)
       obtain rfl := hR
       replace hs : St _ _ [_] _ := hs
       refine O_nil (T_kp [0, 3] rfl ?_)
       refine T_seq (T_drawS [0, 1, 2, 3, 4, 5, 6, 7, 8, 9, 10] hs (by kernel_rfl) ?_)
       replace hs := hs.drew
       refine A_take 0 rfl (by kernel_rfl) rfl hs (Y_move rfl ?_)
       refine A_take 1 rfl (by kernel_rfl) rfl hs (Y_nil rfl ?_)
       refine A_take 2 rfl (by kernel_rfl) rfl hs (Y_fieldAddr FO70_0 rfl (m := 0) rfl ?_)
       refine A_take 3 rfl (by kernel_rfl) rfl hs (Y_ld 0 Tryz.isAgg9 rfl rfl rfl ?_)
       refine A_take 4 rfl (by kernel_rfl) rfl hs (Y_move rfl ?_)
       refine A_take 5 rfl (by kernel_rfl) rfl hs (Y_move rfl ?_)
       refine A_take 6 rfl (by kernel_rfl) rfl hs (Y_nil rfl ?_)
       refine A_take 7 rfl (by kernel_rfl) rfl hs (Y_fieldAddr FO70_1 rfl (m := 1) rfl ?_)
       refine A_take 8 rfl (by kernel_rfl) rfl hs (Y_ld 0 Tryz.isAgg3 rfl rfl rfl ?_)
       refine A_take 9 rfl (by kernel_rfl) rfl hs (Y_sliceStr st.p (st.p + j) Tryz.underlying9 rfl ⟨_, _, rfl, rfl⟩ ⟨_, _, rfl, by first | rfl | (rw [fail_p])⟩ (by omega) (by omega) ?_)
       refine A_take 10 rfl (by kernel_rfl) rfl hs (Y_assign rfl ?_)
       refine A_done (by kernel_rfl) (T_kp [2] rfl ?_)
       refine T_ret ?_
       refine Rt_fin (vs := [_]) Tryz.results48 rfl ⟨rfl, trivial⟩ ?_
       try dsimp only [tup]
       subst hjw
       have htk : (s.drop st.p).take (st.p + (wL s st.p).length - st.p) = wL s st.p := by rw [Nat.add_sub_cancel_left, wL_take]
       have hnil : wL s st.p = [] := List.length_eq_zero_iff.1 (by omega)
       exact ⟨_, _, hs, (⟨st.p + (wL s st.p).length, st.err, st.off⟩ : PS).fail st.p 20, [], rfl, by rw [htk, hnil], Got.err h8' (word_bad (by omega) (by omega)) (fail_ok (st := (⟨st.p + (wL s st.p).length, st.err, st.off⟩ : PS)) h8' (by decide)), by rw [fail_p]; show st.p + (wL s st.p).length ≤ _; omega, fun _ => rfl⟩
      ·
       dsimp only [cmpP] at h69
       refine O_nil (T_kp [0, 3, 69] rfl ?_)
       refine T_condF rfl (T_skip ?_)
       refine T_seq (T_drawS [0, 1, 2, 3, 4, 5, 6, 7, 8, 9, 10] hs (by kernel_rfl) ?_)
       replace hs := hs.drew
       refine A_take 0 rfl (by kernel_rfl) rfl hs (Y_move rfl ?_)
       refine A_take 1 rfl (by kernel_rfl) rfl hs (Y_nil rfl ?_)
       refine A_take 2 rfl (by kernel_rfl) rfl hs (Y_fieldAddr FO70_0 rfl (m := 0) rfl ?_)
       refine A_take 3 rfl (by kernel_rfl) rfl hs (Y_ld 0 Tryz.isAgg9 rfl rfl rfl ?_)
       refine A_take 4 rfl (by kernel_rfl) rfl hs (Y_move rfl ?_)
       refine A_take 5 rfl (by kernel_rfl) rfl hs (Y_move rfl ?_)
       refine A_take 6 rfl (by kernel_rfl) rfl hs (Y_nil rfl ?_)
       refine A_take 7 rfl (by kernel_rfl) rfl hs (Y_fieldAddr FO70_1 rfl (m := 1) rfl ?_)
       refine A_take 8 rfl (by kernel_rfl) rfl hs (Y_ld 0 Tryz.isAgg3 rfl rfl rfl ?_)
       refine A_take 9 rfl (by kernel_rfl) rfl hs (Y_sliceStr st.p (st.p + j) Tryz.underlying9 rfl ⟨_, _, rfl, rfl⟩ ⟨_, _, rfl, by first | rfl | (rw [fail_p])⟩ (by omega) (by omega) ?_)
       refine A_take 10 rfl (by kernel_rfl) rfl hs (Y_assign rfl ?_)
       refine A_done (by kernel_rfl) (T_kp [2] rfl ?_)
       refine T_ret ?_
       refine Rt_fin (vs := [_]) Tryz.results48 rfl ⟨rfl, trivial⟩ ?_
       try dsimp only [tup]
       subst hjw
       have htk : (s.drop st.p).take (st.p + (wL s st.p).length - st.p) = wL s st.p := by rw [Nat.add_sub_cancel_left, wL_take]
       exact ⟨_, _, hs, (⟨st.p + (wL s st.p).length, st.err, st.off⟩ : PS), _, rfl, by rw [htk], Got.ok h8' (word_ok (by omega) (by omega)) (ex_ok (st := (⟨st.p + (wL s st.p).length, st.err, st.off⟩ : PS)) h8'), by show st.p + (wL s st.p).length ≤ _; omega, fun h => absurd h8' h⟩
    ·
     dsimp only [cmpP] at h43
     refine A_take 21 rfl (by kernel_rfl) rfl hs (Y_pickT rfl rfl ?_)
     refine A_take 22 rfl (by kernel_rfl) rfl hs (Y_move rfl ?_)
     refine A_skip 23 rfl (by kernel_rfl) rfl hs ?_
     refine A_skip 24 rfl (by kernel_rfl) rfl hs ?_
     refine A_skip 25 rfl (by kernel_rfl) rfl hs ?_
     refine A_skip 26 rfl (by kernel_rfl) rfl hs ?_
     refine A_skip 27 rfl (by kernel_rfl) rfl hs ?_
     refine A_skip 28 rfl (by kernel_rfl) rfl hs ?_
     refine A_skip 29 rfl (by kernel_rfl) rfl hs ?_
     refine A_skip 30 rfl (by kernel_rfl) rfl hs ?_
     refine A_skip 31 rfl (by kernel_rfl) rfl hs ?_
     refine A_skip 32 rfl (by kernel_rfl) rfl hs ?_
     refine A_take 33 rfl (by kernel_rfl) rfl hs (Y_pickF rfl rfl ?_)
     refine A_done (by kernel_rfl) (T_kp [0, 3, 56] rfl ?_)
     refine T_condF rfl (T_exit ?_)
     have hjw : j = (wL s st.p).length := wL_stop hj (by right; exact ⟨by omega, wB_f (.inl (b32 (by omega)))⟩)
     refine T_seq (T_seq (T_region rfl ?_))
     refine O_m rfl ?_
     refine O_y hs (Y_nil rfl ?_)
     refine O_y hs (Y_fieldAddr FO70_1 rfl (m := 1) rfl ?_)
     refine O_y hs (Y_ld 0 Tryz.isAgg3 rfl rfl rfl ?_)
     refine O_m rfl ?_
     refine O_y hs (Y_cmpS rfl rfl rfl (fun h69 => ?_) (fun h69 => ?_))
     ·
      dsimp only [cmpP] at h69
      refine O_nil (T_kp [0, 3, 69] rfl ?_)
      refine T_condT rfl (T_region rfl ?_)
      refine O_m rfl ?_
      refine O_m rfl ?_
      refine O_s (S_call (H1 := [_]) hs rfl Tryz.func49 rfl (by kernel_rfl) (fail_ok_ (st := (⟨st.p + j, st.err, st.off⟩ : PS)) (q := st.p) (e := 20)) fun v3 G' H' _ hR hG72 hs => ?_)
      obtain rfl := hR
      replace hs : St _ _ [_] _ := hs
      refine O_nil (T_kp [0, 3] rfl ?_)
      refine T_seq (T_drawS [0, 1, 2, 3, 4, 5, 6, 7, 8, 9, 10] hs (by kernel_rfl) ?_)
      replace hs := hs.drew
      refine A_take 0 rfl (by kernel_rfl) rfl hs (Y_move rfl ?_)
      refine A_take 1 rfl (by kernel_rfl) rfl hs (Y_nil rfl ?_)
      refine A_take 2 rfl (by kernel_rfl) rfl hs (Y_fieldAddr FO70_0 rfl (m := 0) rfl ?_)
      refine A_take 3 rfl (by kernel_rfl) rfl hs (Y_ld 0 Tryz.isAgg9 rfl rfl rfl ?_)
      refine A_take 4 rfl (by kernel_rfl) rfl hs (Y_move rfl ?_)
      refine A_take 5 rfl (by kernel_rfl) rfl hs (Y_move rfl ?_)
      refine A_take 6 rfl (by kernel_rfl) rfl hs (Y_nil rfl ?_)
      refine A_take 7 rfl (by kernel_rfl) rfl hs (Y_fieldAddr FO70_1 rfl (m := 1) rfl ?_)
      refine A_take 8 rfl (by kernel_rfl) rfl hs (Y_ld 0 Tryz.isAgg3 rfl rfl rfl ?_)
      refine A_take 9 rfl (by kernel_rfl) rfl hs (Y_sliceStr st.p (st.p + j) Tryz.underlying9 rfl ⟨_, _, rfl, rfl⟩ ⟨_, _, rfl, by first | rfl | (rw [fail_p])⟩ (by omega) (by omega) ?_)
      refine A_take 10 rfl (by kernel_rfl) rfl hs (Y_assign rfl ?_)
      refine A_done (by kernel_rfl) (T_kp [2] rfl ?_)
      refine T_ret ?_
      refine Rt_fin (vs := [_]) Tryz.results48 rfl ⟨rfl, trivial⟩ ?_
      try dsimp only [tup]
      subst hjw
      have htk : (s.drop st.p).take (st.p + (wL s st.p).length - st.p) = wL s st.p := by rw [Nat.add_sub_cancel_left, wL_take]
      have hnil : wL s st.p = [] := List.length_eq_zero_iff.1 (by omega)
      exact ⟨_, _, hs, (⟨st.p + (wL s st.p).length, st.err, st.off⟩ : PS).fail st.p 20, [], rfl, by rw [htk, hnil], Got.err h8' (word_bad (by omega) (by omega)) (fail_ok (st := (⟨st.p + (wL s st.p).length, st.err, st.off⟩ : PS)) h8' (by decide)), by rw [fail_p]; show st.p + (wL s st.p).length ≤ _; omega, fun _ => rfl⟩
     ·
      dsimp only [cmpP] at h69
      refine O_nil (T_kp [0, 3, 69] rfl ?_)
      refine T_condF rfl (T_skip ?_)
      refine T_seq (T_drawS [0, 1, 2, 3, 4, 5, 6, 7, 8, 9, 10] hs (by kernel_rfl) ?_)
      replace hs := hs.drew
      refine A_take 0 rfl (by kernel_rfl) rfl hs (Y_move rfl ?_)
      refine A_take 1 rfl (by kernel_rfl) rfl hs (Y_nil rfl ?_)
      refine A_take 2 rfl (by kernel_rfl) rfl hs (Y_fieldAddr FO70_0 rfl (m := 0) rfl ?_)
      refine A_take 3 rfl (by kernel_rfl) rfl hs (Y_ld 0 Tryz.isAgg9 rfl rfl rfl ?_)
      refine A_take 4 rfl (by kernel_rfl) rfl hs (Y_move rfl ?_)
      refine A_take 5 rfl (by kernel_rfl) rfl hs (Y_move rfl ?_)
      refine A_take 6 rfl (by kernel_rfl) rfl hs (Y_nil rfl ?_)
      refine A_take 7 rfl (by kernel_rfl) rfl hs (Y_fieldAddr FO70_1 rfl (m := 1) rfl ?_)
      refine A_take 8 rfl (by kernel_rfl) rfl hs (Y_ld 0 Tryz.isAgg3 rfl rfl rfl ?_)
      refine A_take 9 rfl (by kernel_rfl) rfl hs (Y_sliceStr st.p (st.p + j) Tryz.underlying9 rfl ⟨_, _, rfl, rfl⟩ ⟨_, _, rfl, by first | rfl | (rw [fail_p])⟩ (by omega) (by omega) ?_)
      refine A_take 10 rfl (by kernel_rfl) rfl hs (Y_assign rfl ?_)
      refine A_done (by kernel_rfl) (T_kp [2] rfl ?_)
      refine T_ret ?_
      refine Rt_fin (vs := [_]) Tryz.results48 rfl ⟨rfl, trivial⟩ ?_
      try dsimp only [tup]
      subst hjw
      have htk : (s.drop st.p).take (st.p + (wL s st.p).length - st.p) = wL s st.p := by rw [Nat.add_sub_cancel_left, wL_take]
      exact ⟨_, _, hs, (⟨st.p + (wL s st.p).length, st.err, st.off⟩ : PS), _, rfl, by rw [htk], Got.ok h8' (word_ok (by omega) (by omega)) (ex_ok (st := (⟨st.p + (wL s st.p).length, st.err, st.off⟩ : PS)) h8'), by show st.p + (wL s st.p).length ≤ _; omega, fun h => absurd h8' h⟩
   ·
    dsimp only [cmpP] at h32
    refine A_take 10 rfl (by kernel_rfl) rfl hs (Y_move rfl ?_)
    refine A_skip 11 rfl (by kernel_rfl) rfl hs ?_
    refine A_skip 12 rfl (by kernel_rfl) rfl hs ?_
    refine A_skip 13 rfl (by kernel_rfl) rfl hs ?_
    refine A_skip 14 rfl (by kernel_rfl) rfl hs ?_
    refine A_skip 15 rfl (by kernel_rfl) rfl hs ?_
    refine A_skip 16 rfl (by kernel_rfl) rfl hs ?_
    refine A_skip 17 rfl (by kernel_rfl) rfl hs ?_
    refine A_skip 18 rfl (by kernel_rfl) rfl hs ?_
    refine A_skip 19 rfl (by kernel_rfl) rfl hs ?_
    refine A_skip 20 rfl (by kernel_rfl) rfl hs ?_
    refine A_take 21 rfl (by kernel_rfl) rfl hs (Y_pickF rfl rfl ?_)
    refine A_take 22 rfl (by kernel_rfl) rfl hs (Y_move rfl ?_)
    refine A_skip 23 rfl (by kernel_rfl) rfl hs ?_
    refine A_skip 24 rfl (by kernel_rfl) rfl hs ?_
    refine A_skip 25 rfl (by kernel_rfl) rfl hs ?_
    refine A_skip 26 rfl (by kernel_rfl) rfl hs ?_
    refine A_skip 27 rfl (by kernel_rfl) rfl hs ?_
    refine A_skip 28 rfl (by kernel_rfl) rfl hs ?_
    refine A_skip 29 rfl (by kernel_rfl) rfl hs ?_
    refine A_skip 30 rfl (by kernel_rfl) rfl hs ?_
    refine A_skip 31 rfl (by kernel_rfl) rfl hs ?_
    refine A_skip 32 rfl (by kernel_rfl) rfl hs ?_
    refine A_take 33 rfl (by kernel_rfl) rfl hs (Y_pickF rfl rfl ?_)
    refine A_done (by kernel_rfl) (T_kp [0, 3, 56] rfl ?_)
    refine T_condF rfl (T_exit ?_)
    have hjw : j = (wL s st.p).length := wL_stop hj (by left; omega)
    refine T_seq (T_seq (T_region rfl ?_))
    refine O_m rfl ?_
    refine O_y hs (Y_nil rfl ?_)
    refine O_y hs (Y_fieldAddr FO70_1 rfl (m := 1) rfl ?_)
    refine O_y hs (Y_ld 0 Tryz.isAgg3 rfl rfl rfl ?_)
    refine O_m rfl ?_
    refine O_y hs (Y_cmpS rfl rfl rfl (fun h69 => ?_) (fun h69 => ?_))
    ·
     dsimp only [cmpP] at h69
     refine O_nil (T_kp [0, 3, 69] rfl ?_)
     refine T_condT rfl (T_region rfl ?_)
     refine O_m rfl ?_
     refine O_m rfl ?_
     refine O_s (S_call (H1 := [_]) hs rfl Tryz.func49 rfl (by kernel_rfl) (fail_ok_ (st := (⟨st.p + j, st.err, st.off⟩ : PS)) (q := st.p) (e := 20)) fun v4 G' H' _ hR hG72 hs => ?_)
     obtain rfl := hR
     replace hs : St _ _ [_] _ := hs
     refine O_nil (T_kp [0, 3] rfl ?_)
     refine T_seq (T_drawS [0, 1, 2, 3, 4, 5, 6, 7, 8, 9, 10] hs (by kernel_rfl) ?_)
     replace hs := hs.drew
     refine A_take 0 rfl (by kernel_rfl) rfl hs (Y_move rfl ?_)
     refine A_take 1 rfl (by kernel_rfl) rfl hs (Y_nil rfl ?_)
     refine A_take 2 rfl (by kernel_rfl) rfl hs (Y_fieldAddr FO70_0 rfl (m := 0) rfl ?_)
     refine A_take 3 rfl (by kernel_rfl) rfl hs (Y_ld 0 Tryz.isAgg9 rfl rfl rfl ?_)
     refine A_take 4 rfl (by kernel_rfl) rfl hs (Y_move rfl ?_)
     refine A_take 5 rfl (by kernel_rfl) rfl hs (Y_move rfl ?_)
     refine A_take 6 rfl (by kernel_rfl) rfl hs (Y_nil rfl ?_)
     refine A_take 7 rfl (by kernel_rfl) rfl hs (Y_fieldAddr FO70_1 rfl (m := 1) rfl ?_)
     refine A_take 8 rfl (by kernel_rfl) rfl hs (Y_ld 0 Tryz.isAgg3 rfl rfl rfl ?_)
     refine A_take 9 rfl (by kernel_rfl) rfl hs (Y_sliceStr st.p (st.p + j) Tryz.underlying9 rfl ⟨_, _, rfl, rfl⟩ ⟨_, _, rfl, by first | rfl | (rw [fail_p])⟩ (by omega) (by omega) ?_)
     refine A_take 10 rfl (by kernel_rfl) rfl hs (Y_assign rfl ?_)
     refine A_done (by kernel_rfl) (T_kp [2] rfl ?_)
     refine T_ret ?_
     refine Rt_fin (vs := [_]) Tryz.results48 rfl ⟨rfl, trivial⟩ ?_
     try dsimp only [tup]
     subst hjw
     have htk : (s.drop st.p).take (st.p + (wL s st.p).length - st.p) = wL s st.p := by rw [Nat.add_sub_cancel_left, wL_take]
     have hnil : wL s st.p = [] := List.length_eq_zero_iff.1 (by omega)
     exact ⟨_, _, hs, (⟨st.p + (wL s st.p).length, st.err, st.off⟩ : PS).fail st.p 20, [], rfl, by rw [htk, hnil], Got.err h8' (word_bad (by omega) (by omega)) (fail_ok (st := (⟨st.p + (wL s st.p).length, st.err, st.off⟩ : PS)) h8' (by decide)), by rw [fail_p]; show st.p + (wL s st.p).length ≤ _; omega, fun _ => rfl⟩
    ·
     dsimp only [cmpP] at h69
     refine O_nil (T_kp [0, 3, 69] rfl ?_)
     refine T_condF rfl (T_skip ?_)
     refine T_seq (T_drawS [0, 1, 2, 3, 4, 5, 6, 7, 8, 9, 10] hs (by kernel_rfl) ?_)
     replace hs := hs.drew
     refine A_take 0 rfl (by kernel_rfl) rfl hs (Y_move rfl ?_)
     refine A_take 1 rfl (by kernel_rfl) rfl hs (Y_nil rfl ?_)
     refine A_take 2 rfl (by kernel_rfl) rfl hs (Y_fieldAddr FO70_0 rfl (m := 0) rfl ?_)
     refine A_take 3 rfl (by kernel_rfl) rfl hs (Y_ld 0 Tryz.isAgg9 rfl rfl rfl ?_)
     refine A_take 4 rfl (by kernel_rfl) rfl hs (Y_move rfl ?_)
     refine A_take 5 rfl (by kernel_rfl) rfl hs (Y_move rfl ?_)
     refine A_take 6 rfl (by kernel_rfl) rfl hs (Y_nil rfl ?_)
     refine A_take 7 rfl (by kernel_rfl) rfl hs (Y_fieldAddr FO70_1 rfl (m := 1) rfl ?_)
     refine A_take 8 rfl (by kernel_rfl) rfl hs (Y_ld 0 Tryz.isAgg3 rfl rfl rfl ?_)
     refine A_take 9 rfl (by kernel_rfl) rfl hs (Y_sliceStr st.p (st.p + j) Tryz.underlying9 rfl ⟨_, _, rfl, rfl⟩ ⟨_, _, rfl, by first | rfl | (rw [fail_p])⟩ (by omega) (by omega) ?_)
     refine A_take 10 rfl (by kernel_rfl) rfl hs (Y_assign rfl ?_)
     refine A_done (by kernel_rfl) (T_kp [2] rfl ?_)
     refine T_ret ?_
     refine Rt_fin (vs := [_]) Tryz.results48 rfl ⟨rfl, trivial⟩ ?_
     try dsimp only [tup]
     subst hjw
     have htk : (s.drop st.p).take (st.p + (wL s st.p).length - st.p) = wL s st.p := by rw [Nat.add_sub_cancel_left, wL_take]
     exact ⟨_, _, hs, (⟨st.p + (wL s st.p).length, st.err, st.off⟩ : PS), _, rfl, by rw [htk], Got.ok h8' (word_ok (by omega) (by omega)) (ex_ok (st := (⟨st.p + (wL s st.p).length, st.err, st.off⟩ : PS)) h8'), by show st.p + (wL s st.p).length ≤ _; omega, fun h => absurd h8' h⟩

theorem numL_nil {w : List UInt8} (h : w = []) : numL w = 0 := by subst h; rfl
theorem rw_len {s w : List UInt8} {st st2 : PS} (h : Got (thenE st.ex (wordP s)) st2 w) (hp : st2.p ≤ s.length) (hw : ¬ st2.err = 0 → w = []) (hl : s.length ≤ 2000000) : w.length ≤ 2000000 := by
  by_cases h0 : st2.err = 0
  · cases hx : st.ex with
    | error e => rw [hx] at h; exact absurd h0 (ex_err (show st2.ex = .error e from h)).1
    | ok q =>
      rw [hx] at h; have h' : Got (wordP s q) st2 w := h
      cases rw_ : wordP s q with
      | error e => rw [rw_] at h'; exact absurd h0 (ex_err (show st2.ex = .error e from h')).1
      | ok r =>
        obtain ⟨w', q1⟩ := r
        rw [rw_] at h'; obtain ⟨_, rfl⟩ := h'
        have := (word_inv rw_).2.2
        omega
  · rw [hw h0]; simp


set_option maxHeartbeats 1000000 in
set_option maxRecDepth 10000 in
theorem rnum_ok {G : Ghost} {p : Nat} {s : List UInt8} {st : PS} (hq : st.p ≤ s.length) (hl : s.length ≤ 2000000) :
  FnOk Tryz.prog 50 [.pointer (some ⟨p, 0, none⟩)] G [.blk p 70 [.string ⟨s.toArray⟩, .int .i64 (st.p : Int), .int .i64 st.err, .int .i64 (st.off : Int)]] fun r _ H' => ∃ (st' : PS) (n : Nat), H' = [.blk p 70 [.string ⟨s.toArray⟩, .int .i64 (st'.p : Int), .int .i64 st'.err, .int .i64 (st'.off : Int)]] ∧ r = .int .i64 (n : Int) ∧ Got (thenE st.ex (numP s)) st' n ∧ st'.p ≤ s.length := by
 have hsz := bsz s
 refine FnOk.of_T [(0, _)] Tryz.func50 rfl Tryz.ntmps50 (by simp) rfl fun w0 hs => ?_
 refine T_seq (T_region rfl ?_)
 refine O_a rfl ?_
 refine O_nil (T_kp [0] rfl ?_)
 refine T_seq (T_region rfl ?_)
 refine O_m rfl ?_
 refine O_s (S_call (H1 := [_]) hs rfl Tryz.func52 rfl (by kernel_rfl) (rexp_ok (st := st) (b := 32) (by assumption) hl) fun v1 G' H' _ hR hG8 hs => ?_)
 obtain ⟨st1, rfl, hgst1, hpst1⟩ := hR
 replace hs : St _ _ [_] _ := hs
 refine O_nil (T_kp [0] rfl ?_)
 refine T_seq (T_region rfl ?_)
 refine O_m rfl ?_
 refine O_y hs (Y_nil rfl ?_)
 refine O_y hs (Y_fieldAddr FO70_1 rfl (m := 1) rfl ?_)
 refine O_y hs (Y_ld 0 Tryz.isAgg3 rfl rfl rfl ?_)
 refine O_a rfl ?_
 refine O_nil (T_kp [0, 3] rfl ?_)
 refine T_seq (T_region rfl ?_)
 refine O_m rfl ?_
 refine O_s (S_call (H1 := [_]) hs rfl Tryz.func48 rfl (by kernel_rfl) (rwrd_ok (st := st1) (by assumption) hl) fun v2 G' H' _ hR hG14 hs => ?_)
 obtain ⟨st2, wd, rfl, rfl, hgst2, hpst2, hwst2⟩ := hR
 replace hs : St _ _ [_] _ := hs
 have hsw := bsz wd
 refine O_a rfl ?_
 refine O_nil (T_kp [0, 3, 4] rfl ?_)
 refine T_seq (T_region rfl ?_)
 refine O_a rfl ?_
 refine O_nil (T_kp [0, 3, 4, 5] rfl ?_)
 refine T_seq (T_seq (T_region rfl ?_))
 refine O_a rfl ?_
 refine O_nil (T_kp [0, 3, 4, 5, 6] rfl ?_)
 have hwl2 : wd.length ≤ 2000000 := rw_len hgst2 hpst2 hwst2 hl
 have hch := num_chain hgst1 hgst2
 refine T_block (T_loop (fun m E w => ∃ (k : Nat) (G2 : Ghost), k ≤ wd.length ∧ (∀ i, i < k → badN wd i = false) ∧ m = wd.length - k ∧ E = ⟨[], [(0, .pointer (some ⟨p, 0, none⟩)), (3, .int .i64 (st1.p : Int)), (4, .string ⟨wd.toArray⟩), (5, .int .i64 ((numL (wd.take k) : Nat) : Int)), (6, .int .i64 (k : Int))]⟩ ∧ St ⟨w0, G, feet [.blk p 70 [.string ⟨s.toArray⟩, .int .i64 (st.p : Int), .int .i64 st.err, .int .i64 (st.off : Int)]]⟩ G2 [.blk p 70 [.string ⟨s.toArray⟩, .int .i64 (st2.p : Int), .int .i64 st2.err, .int .i64 (st2.off : Int)]] w) (L := [(0, _), (3, _), (4, _), (5, _), (6, _)]) ⟨rfl, rfl, rfl, rfl, rfl, trivial⟩ (⟨0, _, by omega, fun i hi => absurd hi (by omega), rfl, rfl, hs⟩) fun m E w hI => ?_)
 obtain ⟨k, G2, hk, hbn, rfl, rfl, hs⟩ := hI
 refine T_seq (T_seq (T_region rfl ?_))
 refine O_m rfl ?_
 refine O_m rfl ?_
 refine O_y hs (Y_lenS Tryz.underlying9 rfl ?_)
 refine O_y hs (Y_cmpS rfl rfl rfl (fun h18 => ?_) (fun h18 => ?_))
 ·
  dsimp only [cmpP] at h18
  refine O_nil (T_kp [0, 3, 4, 5, 6, 18] rfl ?_)
  refine T_condT rfl (T_skip ?_)
  refine T_seq (T_block (T_seq (T_seq (T_region rfl ?_))))
  refine O_m rfl ?_
  refine O_m rfl ?_
  refine O_y hs (Y_idxStr (b := wd[k]'(by omega)) (k) Tryz.underlying9 rfl rfl (rfl) (str_at (List.getElem?_eq_getElem (by omega))) ?_)
  refine O_y hs (Y_cmpS rfl rfl rfl (fun h24 => ?_) (fun h24 => ?_))
  ·
   dsimp only [cmpP] at h24
   refine O_m rfl ?_
   refine O_no 25 rfl rfl ?_
   refine O_no 25 rfl rfl ?_
   refine O_no 25 rfl rfl ?_
   refine O_no 25 rfl rfl ?_
   refine O_y hs (Y_pickT rfl rfl ?_)
   refine O_m rfl ?_
   refine O_no 31 rfl rfl ?_
   refine O_no 31 rfl rfl ?_
   refine O_no 31 rfl rfl ?_
   refine O_noU 34 rfl rfl ?_
   refine O_noU 34 rfl rfl ?_
   refine O_noU 34 rfl rfl ?_
   refine O_no 31 rfl rfl ?_
   refine O_y hs (Y_pickT rfl rfl ?_)
   refine O_nil (T_kp [0, 3, 4, 5, 6, 39] rfl ?_)
   refine T_condT rfl (T_seq (T_region rfl ?_))
   refine O_m rfl ?_
   refine O_m rfl ?_
   refine O_s (S_call (H1 := [_]) hs rfl Tryz.func49 rfl (by kernel_rfl) (fail_ok_ (st := st2) (q := st1.p) (e := 20)) fun v3 G' H' _ hR hG42 hs => ?_)
   obtain rfl := hR
   replace hs : St _ _ [_] _ := hs
   refine O_nil (T_kp [] rfl ?_)
   refine T_seq (T_region rfl ?_)
   refine O_a rfl ?_
   refine O_nil (T_kp [2] rfl ?_)
   refine T_ret ?_
   refine Rt_fin (vs := [_]) Tryz.results50 rfl ⟨rfl, trivial⟩ ?_
   try dsimp only [tup]
   have he2 : st2.err = 0 := Classical.byContradiction fun h => by have h0 : wd.length = 0 := (by rw [hwst2 h]; rfl); omega
   exact ⟨_, _, hs, st2.fail st1.p 20, 0, rfl, rfl, Got.of_eq hch (by rw [if_pos he2, numV_bad (i := k) (by omega) (bad_1 (by omega) (by omega))]; exact fail_ok he2 (by decide)), by rw [fail_p]; exact hpst2⟩
  ·
   dsimp only [cmpP] at h24
   refine O_m rfl ?_
   refine O_yy 25 hs rfl rfl (Y_move rfl ?_)
   refine O_yy 25 hs rfl rfl (Y_move rfl ?_)
   refine O_yy 25 hs rfl rfl (Y_idxStr (b := wd[k]'(by omega)) (k) Tryz.underlying9 rfl rfl (rfl) (str_at (List.getElem?_eq_getElem (by omega))) ?_)
   refine O_yy 25 hs rfl rfl (Y_cmpS rfl rfl rfl (fun h29 => ?_) (fun h29 => ?_))
   ·
    dsimp only [cmpP] at h29
    refine O_y hs (Y_pickF rfl rfl ?_)
    refine O_m rfl ?_
    refine O_no 31 rfl rfl ?_
    refine O_no 31 rfl rfl ?_
    refine O_no 31 rfl rfl ?_
    refine O_noU 34 rfl rfl ?_
    refine O_noU 34 rfl rfl ?_
    refine O_noU 34 rfl rfl ?_
    refine O_no 31 rfl rfl ?_
    refine O_y hs (Y_pickT rfl rfl ?_)
    refine O_nil (T_kp [0, 3, 4, 5, 6, 39] rfl ?_)
    refine T_condT rfl (T_seq (T_region rfl ?_))
    refine O_m rfl ?_
    refine O_m rfl ?_
    refine O_s (S_call (H1 := [_]) hs rfl Tryz.func49 rfl (by kernel_rfl) (fail_ok_ (st := st2) (q := st1.p) (e := 20)) fun v4 G' H' _ hR hG42 hs => ?_)
    obtain rfl := hR
    replace hs : St _ _ [_] _ := hs
    refine O_nil (T_kp [] rfl ?_)
    refine T_seq (T_region rfl ?_)
    refine O_a rfl ?_
    refine O_nil (T_kp [2] rfl ?_)
    refine T_ret ?_
    refine Rt_fin (vs := [_]) Tryz.results50 rfl ⟨rfl, trivial⟩ ?_
    try dsimp only [tup]
    have he2 : st2.err = 0 := Classical.byContradiction fun h => by have h0 : wd.length = 0 := (by rw [hwst2 h]; rfl); omega
    exact ⟨_, _, hs, st2.fail st1.p 20, 0, rfl, rfl, Got.of_eq hch (by rw [if_pos he2, numV_bad (i := k) (by omega) (bad_1 (by omega) (by omega))]; exact fail_ok he2 (by decide)), by rw [fail_p]; exact hpst2⟩
   ·
    dsimp only [cmpP] at h29
    refine O_y hs (Y_pickF rfl rfl ?_)
    refine O_m rfl ?_
    refine O_yy 31 hs rfl rfl (Y_move rfl ?_)
    refine O_yy 31 hs rfl rfl (Y_cmpS rfl rfl rfl (fun h33 => ?_) (fun h33 => ?_))
    ·
     dsimp only [cmpP] at h33
     refine O_yy 31 hs rfl rfl (Y_move rfl ?_)
     refine O_yy 34 hs rfl rfl (Y_move rfl ?_)
     refine O_yy 34 hs rfl rfl (Y_idxStr (b := wd[0]'(by omega)) (0) Tryz.underlying9 rfl rfl (rfl) (str_at (List.getElem?_eq_getElem (by omega))) ?_)
     refine O_yy 34 hs rfl rfl (Y_cmpS rfl rfl rfl (fun h37 => ?_) (fun h37 => ?_))
     ·
      dsimp only [cmpP] at h37
      refine O_yy 31 hs rfl rfl (Y_pickT rfl rfl ?_)
      refine O_y hs (Y_pickF rfl rfl ?_)
      refine O_nil (T_kp [0, 3, 4, 5, 6, 39] rfl ?_)
      refine T_condT rfl (T_seq (T_region rfl ?_))
      refine O_m rfl ?_
      refine O_m rfl ?_
      refine O_s (S_call (H1 := [_]) hs rfl Tryz.func49 rfl (by kernel_rfl) (fail_ok_ (st := st2) (q := st1.p) (e := 20)) fun v5 G' H' _ hR hG42 hs => ?_)
      obtain rfl := hR
      replace hs : St _ _ [_] _ := hs
      refine O_nil (T_kp [] rfl ?_)
      refine T_seq (T_region rfl ?_)
      refine O_a rfl ?_
      refine O_nil (T_kp [2] rfl ?_)
      refine T_ret ?_
      refine Rt_fin (vs := [_]) Tryz.results50 rfl ⟨rfl, trivial⟩ ?_
      try dsimp only [tup]
      have he2 : st2.err = 0 := Classical.byContradiction fun h => by have h0 : wd.length = 0 := (by rw [hwst2 h]; rfl); omega
      obtain rfl : k = 1 := by omega
      exact ⟨_, _, hs, st2.fail st1.p 20, 0, rfl, rfl, Got.of_eq hch (by rw [if_pos he2, numV_bad (by omega) (bad_2 (by omega) (b48 (by omega)))]; exact fail_ok he2 (by decide)), by rw [fail_p]; exact hpst2⟩
     ·
      dsimp only [cmpP] at h37
      refine O_yy 31 hs rfl rfl (Y_pickT rfl rfl ?_)
      refine O_y hs (Y_pickF rfl rfl ?_)
      refine O_nil (T_kp [0, 3, 4, 5, 6, 39] rfl ?_)
      refine T_condF rfl (T_skip ?_)
      have hnb := bad_no (w := wd) (k := k) (by omega) (by omega) (fun _ h => h37 (by rw [h]; rfl))
      have hnl := numL_le (wd.take k)
      have hsc := numL_succ (w := wd) (k := k) (by omega)
      refine T_region rfl ?_
      refine O_m rfl ?_
      refine O_y hs (Y_mul (c := (10 * ((numL (wd.take k) : Nat) : Int))) rfl rfl (by omega) (by omega) ?_)
      refine O_m rfl ?_
      refine O_m rfl ?_
      refine O_y hs (Y_idxStr (b := wd[k]'(by omega)) (k) Tryz.underlying9 rfl rfl (rfl) (str_at (List.getElem?_eq_getElem (by omega))) ?_)
      refine O_y hs (Y_subW rfl rfl ?_)
      refine O_y hs (Y_conv Tryz.underlying5 Tryz.underlying3 (c := ((wd[k].toNat - 48 : Nat) : Int)) rfl (u8sub48 (by omega)) ?_)
      refine O_y hs (Y_add (c := ((10 * numL (wd.take k) + (wd[k].toNat - 48) : Nat) : Int)) rfl rfl (by omega) (by omega) ?_)
      refine O_y hs (Y_min (c := ((numL (wd.take (k + 1)) : Nat) : Int)) rfl rfl (by rw [hsc]; omega) ?_)
      refine O_a rfl ?_
      refine O_nil (T_kp [0, 3, 4, 5, 6] rfl ?_)
      refine T_region rfl ?_
      refine O_m rfl ?_
      refine O_y hs (Y_add (c := ((k + 1 : Nat) : Int)) rfl rfl (by omega) (by omega) ?_)
      refine O_a rfl ?_
      refine O_nil ⟨_, ?_, [(0, _), (3, _), (4, _), (5, _), (6, _)], ⟨rfl, rfl, rfl, rfl, rfl, trivial⟩, ⟨k + 1, _, by omega, fun i hi => (Nat.lt_or_ge i k).elim (hbn i) (fun h' => by rw [show i = k by omega]; exact hnb), rfl, rfl, hs⟩⟩
      omega
    ·
     dsimp only [cmpP] at h33
     refine O_yy 31 hs rfl rfl (Y_move rfl ?_)
     refine O_no 34 rfl rfl ?_
     refine O_no 34 rfl rfl ?_
     refine O_no 34 rfl rfl ?_
     refine O_yy 31 hs rfl rfl (Y_pickF rfl rfl ?_)
     refine O_y hs (Y_pickF rfl rfl ?_)
     refine O_nil (T_kp [0, 3, 4, 5, 6, 39] rfl ?_)
     refine T_condF rfl (T_skip ?_)
     have hnb := bad_no (w := wd) (k := k) (by omega) (by omega) (fun h => absurd h (by omega))
     have hnl := numL_le (wd.take k)
     have hsc := numL_succ (w := wd) (k := k) (by omega)
     refine T_region rfl ?_
     refine O_m rfl ?_
     refine O_y hs (Y_mul (c := (10 * ((numL (wd.take k) : Nat) : Int))) rfl rfl (by omega) (by omega) ?_)
     refine O_m rfl ?_
     refine O_m rfl ?_
     refine O_y hs (Y_idxStr (b := wd[k]'(by omega)) (k) Tryz.underlying9 rfl rfl (rfl) (str_at (List.getElem?_eq_getElem (by omega))) ?_)
     refine O_y hs (Y_subW rfl rfl ?_)
     refine O_y hs (Y_conv Tryz.underlying5 Tryz.underlying3 (c := ((wd[k].toNat - 48 : Nat) : Int)) rfl (u8sub48 (by omega)) ?_)
     refine O_y hs (Y_add (c := ((10 * numL (wd.take k) + (wd[k].toNat - 48) : Nat) : Int)) rfl rfl (by omega) (by omega) ?_)
     refine O_y hs (Y_min (c := ((numL (wd.take (k + 1)) : Nat) : Int)) rfl rfl (by rw [hsc]; omega) ?_)
     refine O_a rfl ?_
     refine O_nil (T_kp [0, 3, 4, 5, 6] rfl ?_)
     refine T_region rfl ?_
     refine O_m rfl ?_
     refine O_y hs (Y_add (c := ((k + 1 : Nat) : Int)) rfl rfl (by omega) (by omega) ?_)
     refine O_a rfl ?_
     refine O_nil ⟨_, ?_, [(0, _), (3, _), (4, _), (5, _), (6, _)], ⟨rfl, rfl, rfl, rfl, rfl, trivial⟩, ⟨k + 1, _, by omega, fun i hi => (Nat.lt_or_ge i k).elim (hbn i) (fun h' => by rw [show i = k by omega]; exact hnb), rfl, rfl, hs⟩⟩
     omega
 ·
  dsimp only [cmpP] at h18
  refine O_nil (T_kp [0, 3, 4, 5, 6, 18] rfl ?_)
  refine T_condF rfl (T_exit ?_)
  have hnl := numL_le (wd.take k)
  refine T_seq (T_seq (T_region rfl ?_))
  refine O_m rfl ?_
  refine O_y hs (Y_cmpS rfl rfl rfl (fun h53 => ?_) (fun h53 => ?_))
  ·
   dsimp only [cmpP] at h53
   refine O_nil (T_kp [0, 3, 5, 53] rfl ?_)
   refine T_condT rfl (T_region rfl ?_)
   refine O_m rfl ?_
   refine O_m rfl ?_
   refine O_s (S_call (H1 := [_]) hs rfl Tryz.func49 rfl (by kernel_rfl) (fail_ok_ (st := st2) (q := st1.p) (e := 2)) fun v6 G' H' _ hR hG56 hs => ?_)
   obtain rfl := hR
   replace hs : St _ _ [_] _ := hs
   refine O_nil (T_kp [5] rfl ?_)
   refine T_seq (T_region rfl ?_)
   refine O_m rfl ?_
   refine O_a rfl ?_
   refine O_nil (T_kp [2] rfl ?_)
   refine T_ret ?_
   refine Rt_fin (vs := [_]) Tryz.results50 rfl ⟨rfl, trivial⟩ ?_
   try dsimp only [tup]
   have hkw : k = wd.length := by omega
   subst hkw
   rw [List.take_length] at h53 ⊢
   have he2 : st2.err = 0 := Classical.byContradiction fun h => by have h0 := numL_nil (hwst2 h); omega
   exact ⟨_, _, hs, st2.fail st1.p 2, numL wd, rfl, rfl, Got.of_eq hch (by rw [if_pos he2, numV_big hbn (by omega)]; exact fail_ok he2 (by decide)), by rw [fail_p]; exact hpst2⟩
  ·
   dsimp only [cmpP] at h53
   refine O_nil (T_kp [0, 3, 5, 53] rfl ?_)
   refine T_condF rfl (T_skip ?_)
   refine T_seq (T_region rfl ?_)
   refine O_m rfl ?_
   refine O_a rfl ?_
   refine O_nil (T_kp [2] rfl ?_)
   refine T_ret ?_
   refine Rt_fin (vs := [_]) Tryz.results50 rfl ⟨rfl, trivial⟩ ?_
   try dsimp only [tup]
   have hkw : k = wd.length := by omega
   subst hkw
   rw [List.take_length] at h53 ⊢
   exact ⟨_, _, hs, st2, numL wd, rfl, rfl, Got.of_eq hch (by split; exact (by rw [numV_ok hbn (by omega)]; exact ⟨ex_ok (by assumption), rfl⟩); exact ex_no (by assumption)), hpst2⟩

set_option maxHeartbeats 1000000 in
set_option maxRecDepth 10000 in
theorem rbyt_ok {G : Ghost} {p : Nat} {s : List UInt8} {st : PS} (hq : st.p ≤ s.length) (hl : s.length ≤ 2000000) :
  FnOk Tryz.prog 51 [.pointer (some ⟨p, 0, none⟩)] G [.blk p 70 [.string ⟨s.toArray⟩, .int .i64 (st.p : Int), .int .i64 st.err, .int .i64 (st.off : Int)]] fun r G' H' => ∃ (st' : PS) (b : List UInt8), H' = [.blk p 70 [.string ⟨s.toArray⟩, .int .i64 (st'.p : Int), .int .i64 st'.err, .int .i64 (st'.off : Int)]] ∧ Bytes G' r b ∧ Got (thenE st.ex (bytesP s)) st' b ∧ st'.p ≤ s.length := by
 have hsz := bsz s
 refine FnOk.of_T [(0, _)] Tryz.func51 rfl Tryz.ntmps51 (by simp) rfl fun w0 hs => ?_
 refine T_seq (T_region rfl ?_)
 refine O_a rfl ?_
 refine O_nil (T_kp [0] rfl ?_)
 refine T_seq (T_region rfl ?_)
 refine O_m rfl ?_
 refine O_s (S_call (H1 := [_]) hs rfl Tryz.func52 rfl (by kernel_rfl) (rexp_ok (st := st) (b := 32) (by assumption) hl) fun v1 G' H' _ hR hG8 hs => ?_)
 obtain ⟨st1, rfl, hgst1, hpst1⟩ := hR
 replace hs : St _ _ [_] _ := hs
 refine O_nil (T_kp [0] rfl ?_)
 refine T_seq (T_region rfl ?_)
 refine O_m rfl ?_
 refine O_y hs (Y_nil rfl ?_)
 refine O_y hs (Y_fieldAddr FO70_1 rfl (m := 1) rfl ?_)
 refine O_y hs (Y_ld 0 Tryz.isAgg3 rfl rfl rfl ?_)
 refine O_a rfl ?_
 refine O_nil (T_kp [0, 3] rfl ?_)
 refine T_seq (T_region rfl ?_)
 refine O_m rfl ?_
 refine O_s (S_call (H1 := [_]) hs rfl Tryz.func48 rfl (by kernel_rfl) (rwrd_ok (st := st1) (by assumption) hl) fun v2 G' H' _ hR hG14 hs => ?_)
 obtain ⟨st2, wd, rfl, rfl, hgst2, hpst2, hwst2⟩ := hR
 replace hs : St _ _ [_] _ := hs
 have hsw := bsz wd
 refine O_a rfl ?_
 refine O_nil (T_kp [0, 3, 4] rfl ?_)
 refine T_seq (T_seq (T_region rfl ?_))
 refine O_m rfl ?_
 refine O_y hs (Y_strEqS (b := [45]) rfl rfl (fun h16 => ?_) (fun h16 => ?_))
 ·
  refine O_nil (T_kp [0, 3, 4, 16] rfl ?_)
  refine T_condT rfl (T_seq (T_region rfl ?_))
  refine O_a rfl ?_
  refine O_nil (T_kp [2] rfl ?_)
  refine T_ret ?_
  refine Rt_fin (vs := [_]) Tryz.results51 rfl ⟨rfl, trivial⟩ ?_
  try dsimp only [tup]
  have he2 : st2.err = 0 := Classical.byContradiction fun h => by have h0 := hwst2 h; rw [h16] at h0; cases h0
  exact ⟨_, _, hs, st2, [], rfl, Sl.nil _ _, Got.of_eq (byt_chain hgst1 hgst2) (by rw [if_pos he2, hexW_dash h16]; exact ⟨ex_ok he2, rfl⟩), hpst2⟩
 ·
  refine O_nil (T_kp [0, 3, 4, 16] rfl ?_)
  refine T_condF rfl (T_skip ?_)
  refine T_seq (T_region rfl ?_)
  refine O_s (S_lit hs Tryz.underlying25 Tryz.sizeOf5 Tryz.zeroValue5 rfl rfl (by decide) (by decide) rfl (cs := []) rfl rfl fun v3 _ hs _ => ?_)
  refine O_a rfl ?_
  refine O_nil (T_kp [0, 3, 4, 5] rfl ?_)
  refine T_seq (T_seq (T_region rfl ?_))
  refine O_a rfl ?_
  refine O_nil (T_kp [0, 3, 4, 5, 6] rfl ?_)
  have hs := hs.f1
  have hs := hs.f1
  have hwl2 : wd.length ≤ 2000000 := rw_len hgst2 hpst2 hwst2 hl
  have hch := byt_chain hgst1 hgst2
  refine T_block (T_loop (fun m E w => ∃ (i : Nat) (out : List UInt8) (v5 : Value) (G2 : Ghost), i ≤ wd.length + 1 ∧ i % 2 = 0 ∧ out.length ≤ i ∧ (i < wd.length + 1 ∧ hexL wd = (hexL (wd.drop i)).map (out ++ ·)) ∧ m = wd.length + 1 - i ∧ E = ⟨[], [(0, .pointer (some ⟨p, 0, none⟩)), (3, .int .i64 (st1.p : Int)), (4, .string ⟨wd.toArray⟩), (5, v5), (6, .int .i64 (i : Int))]⟩ ∧ St ⟨w0, G, feet [.blk p 70 [.string ⟨s.toArray⟩, .int .i64 (st.p : Int), .int .i64 st.err, .int .i64 (st.off : Int)]]⟩ G2 [.row 5 1 v5 out.length (out.map byteV), .blk p 70 [.string ⟨s.toArray⟩, .int .i64 (st2.p : Int), .int .i64 st2.err, .int .i64 (st2.off : Int)]] w) (L := [(0, _), (3, _), (4, _), (5, _), (6, _)]) ⟨rfl, rfl, rfl, rfl, rfl, trivial⟩ (⟨0, [], _, _, by omega, rfl, by simp, ⟨by omega, by simp⟩, rfl, rfl, hs⟩) fun m E w hI => ?_)
  obtain ⟨i, out, v5, G2, hi, hi2, hol, ⟨hi4, hhx⟩, rfl, rfl, hs⟩ := hI
  refine T_seq (T_seq (T_region rfl ?_))
  refine O_m rfl ?_
  refine O_m rfl ?_
  refine O_y hs (Y_lenS Tryz.underlying9 rfl ?_)
  refine O_y hs (Y_cmpS rfl rfl rfl (fun h21 => ?_) (fun h21 => ?_))
  ·
   dsimp only [cmpP] at h21
   refine O_nil (T_kp [0, 3, 4, 5, 6, 21] rfl ?_)
   refine T_condT rfl (T_skip ?_)
   refine T_seq (T_block (T_seq (T_seq (T_region rfl ?_))))
   refine O_m rfl ?_
   refine O_y hs (Y_add (c := ((i + 1 : Nat) : Int)) rfl rfl (by omega) (by omega) ?_)
   refine O_m rfl ?_
   refine O_y hs (Y_lenS Tryz.underlying9 rfl ?_)
   refine O_y hs (Y_cmpS rfl rfl rfl (fun h28 => ?_) (fun h28 => ?_))
   ·
    dsimp only [cmpP] at h28
    refine O_m rfl ?_
    refine O_no 29 rfl rfl ?_
    refine O_no 29 rfl rfl ?_
    refine O_no 29 rfl rfl ?_
    refine O_no 29 rfl rfl ?_
    refine O_no 29 rfl rfl ?_
    refine O_y hs (Y_pickT rfl rfl ?_)
    refine O_m rfl ?_
    refine O_no 36 rfl rfl ?_
    refine O_no 36 rfl rfl ?_
    refine O_no 36 rfl rfl ?_
    refine O_no 36 rfl rfl ?_
    refine O_no 36 rfl rfl ?_
    refine O_no 36 rfl rfl ?_
    refine O_y hs (Y_pickT rfl rfl ?_)
    refine O_nil (T_kp [0, 3, 4, 5, 6, 43] rfl ?_)
    refine T_condT rfl (T_seq (T_region rfl ?_))
    refine O_m rfl ?_
    refine O_m rfl ?_
    have hs := hs.f1
    refine O_s (S_call (H1 := [_]) hs rfl Tryz.func49 rfl (by kernel_rfl) (fail_ok_ (st := st2) (q := st1.p) (e := 20)) fun v4 G' H' _ hR hG46 hs => ?_)
    obtain rfl := hR
    replace hs : St _ _ [_, _] _ := hs
    refine O_nil (T_kp [] rfl ?_)
    refine T_seq (T_region rfl ?_)
    refine O_a rfl ?_
    refine O_nil (T_kp [2] rfl ?_)
    refine T_ret ?_
    refine Rt_fin (vs := [_]) Tryz.results51 rfl ⟨rfl, trivial⟩ ?_
    try dsimp only [tup]
    have he2 : st2.err = 0 := Classical.byContradiction fun h => by have h0 : wd.length = 0 := (by rw [hwst2 h]; rfl); omega
    exact ⟨_, _, hs.weak hs.le (Ghost.le.refl _) (List.sublist_append_left [_] _), st2.fail st1.p 20, [], rfl, Sl.nil _ _, Got.of_eq hch (by rw [if_pos he2, hexW_bad h16 (hexL_odd _ (by omega))]; exact fail_ok he2 (by decide)), by rw [fail_p]; exact hpst2⟩
   ·
    dsimp only [cmpP] at h28
    refine O_m rfl ?_
    refine O_yy 29 hs rfl rfl (Y_move rfl ?_)
    refine O_yy 29 hs rfl rfl (Y_move rfl ?_)
    refine O_yy 29 hs rfl rfl (Y_idxStr (b := wd[i]'(by omega)) (i) Tryz.underlying9 rfl rfl (by omega) (str_at (List.getElem?_eq_getElem (by omega))) ?_)
    refine O_yes 29 rfl rfl (S_call (H1 := []) hs rfl Tryz.func80 rfl (by kernel_rfl) (rdig_ok (x := (wd[i]'(by omega)))) fun v5 G' H' _ hR hG33 hs => ?_)
    obtain ⟨rfl, rfl⟩ := hR
    replace hs : St _ _ [_, _] _ := hs
    refine O_yy 29 hs rfl rfl (Y_cmpS rfl rfl rfl (fun h34 => ?_) (fun h34 => ?_))
    ·
     dsimp only [cmpP] at h34
     refine O_y hs (Y_pickF rfl rfl ?_)
     refine O_m rfl ?_
     refine O_no 36 rfl rfl ?_
     refine O_no 36 rfl rfl ?_
     refine O_no 36 rfl rfl ?_
     refine O_no 36 rfl rfl ?_
     refine O_no 36 rfl rfl ?_
     refine O_no 36 rfl rfl ?_
     refine O_y hs (Y_pickT rfl rfl ?_)
     refine O_nil (T_kp [0, 3, 4, 5, 6, 43] rfl ?_)
     refine T_condT rfl (T_seq (T_region rfl ?_))
     refine O_m rfl ?_
     refine O_m rfl ?_
     have hs := hs.f1
     refine O_s (S_call (H1 := [_]) hs rfl Tryz.func49 rfl (by kernel_rfl) (fail_ok_ (st := st2) (q := st1.p) (e := 20)) fun v6 G' H' _ hR hG46 hs => ?_)
     obtain rfl := hR
     replace hs : St _ _ [_, _] _ := hs
     refine O_nil (T_kp [] rfl ?_)
     refine T_seq (T_region rfl ?_)
     refine O_a rfl ?_
     refine O_nil (T_kp [2] rfl ?_)
     refine T_ret ?_
     refine Rt_fin (vs := [_]) Tryz.results51 rfl ⟨rfl, trivial⟩ ?_
     try dsimp only [tup]
     have he2 : st2.err = 0 := Classical.byContradiction fun h => by have h0 : wd.length = 0 := (by rw [hwst2 h]; rfl); omega
     exact ⟨_, _, hs.weak hs.le (Ghost.le.refl _) (List.sublist_append_left [_] _), st2.fail st1.p 20, [], rfl, Sl.nil _ _, Got.of_eq hch (by rw [if_pos he2, hexW_bad h16 (hex_none (by omega) (.inl (hexI_no (by omega))) hhx)]; exact fail_ok he2 (by decide)), by rw [fail_p]; exact hpst2⟩
    ·
     dsimp only [cmpP] at h34
     refine O_y hs (Y_pickF rfl rfl ?_)
     refine O_m rfl ?_
     refine O_yy 36 hs rfl rfl (Y_move rfl ?_)
     refine O_yy 36 hs rfl rfl (Y_move rfl ?_)
     refine O_yy 36 hs rfl rfl (Y_add (c := ((i + 1 : Nat) : Int)) rfl rfl (by omega) (by omega) ?_)
     refine O_yy 36 hs rfl rfl (Y_idxStr (b := wd[i + 1]'(by omega)) (i + 1) Tryz.underlying9 rfl rfl (by omega) (str_at (List.getElem?_eq_getElem (by omega))) ?_)
     refine O_yes 36 rfl rfl (S_call (H1 := []) hs rfl Tryz.func80 rfl (by kernel_rfl) (rdig_ok (x := (wd[i + 1]'(by omega)))) fun v7 G' H' _ hR hG41 hs => ?_)
     obtain ⟨rfl, rfl⟩ := hR
     replace hs : St _ _ [_, _] _ := hs
     refine O_yy 36 hs rfl rfl (Y_cmpS rfl rfl rfl (fun h42 => ?_) (fun h42 => ?_))
     ·
      dsimp only [cmpP] at h42
      refine O_y hs (Y_pickF rfl rfl ?_)
      refine O_nil (T_kp [0, 3, 4, 5, 6, 43] rfl ?_)
      refine T_condT rfl (T_seq (T_region rfl ?_))
      refine O_m rfl ?_
      refine O_m rfl ?_
      have hs := hs.f1
      refine O_s (S_call (H1 := [_]) hs rfl Tryz.func49 rfl (by kernel_rfl) (fail_ok_ (st := st2) (q := st1.p) (e := 20)) fun v8 G' H' _ hR hG46 hs => ?_)
      obtain rfl := hR
      replace hs : St _ _ [_, _] _ := hs
      refine O_nil (T_kp [] rfl ?_)
      refine T_seq (T_region rfl ?_)
      refine O_a rfl ?_
      refine O_nil (T_kp [2] rfl ?_)
      refine T_ret ?_
      refine Rt_fin (vs := [_]) Tryz.results51 rfl ⟨rfl, trivial⟩ ?_
      try dsimp only [tup]
      have he2 : st2.err = 0 := Classical.byContradiction fun h => by have h0 : wd.length = 0 := (by rw [hwst2 h]; rfl); omega
      exact ⟨_, _, hs.weak hs.le (Ghost.le.refl _) (List.sublist_append_left [_] _), st2.fail st1.p 20, [], rfl, Sl.nil _ _, Got.of_eq hch (by rw [if_pos he2, hexW_bad h16 (hex_none (by omega) (.inr (hexI_no (by omega))) hhx)]; exact fail_ok he2 (by decide)), by rw [fail_p]; exact hpst2⟩
     ·
      dsimp only [cmpP] at h42
      refine O_y hs (Y_pickF rfl rfl ?_)
      refine O_nil (T_kp [0, 3, 4, 5, 6, 43] rfl ?_)
      refine T_condF rfl (T_skip ?_)
      have hi3 : i + 1 < wd.length := by omega
      obtain ⟨h, hh1, hh2, hh3⟩ := hexI_ok (x := (wd[i]'(by omega))) (by omega)
      obtain ⟨l, hl1, hl2, hl3⟩ := hexI_ok (x := (wd[i + 1]'(by omega))) (by omega)
      refine T_drawS [0, 1, 2, 3, 4, 5, 6, 7, 8, 9, 10, 11, 12, 13] hs (by kernel_rfl) ?_
      replace hs := hs.drew
      refine A_take 0 rfl (by kernel_rfl) rfl hs (Y_move rfl ?_)
      refine A_take 1 rfl (by kernel_rfl) rfl hs (Y_move rfl ?_)
      refine A_take 2 rfl (by kernel_rfl) rfl hs (Y_move rfl ?_)
      refine A_take 3 rfl (by kernel_rfl) rfl hs (Y_idxStr (b := wd[i]'(by omega)) (i) Tryz.underlying9 rfl rfl (by omega) (str_at (List.getElem?_eq_getElem (by omega))) ?_)
      refine A_take 6 rfl (by kernel_rfl) rfl hs (Y_move rfl ?_)
      refine A_take 7 rfl (by kernel_rfl) rfl hs (Y_move rfl ?_)
      refine A_take 8 rfl (by kernel_rfl) rfl hs (Y_add (c := ((i + 1 : Nat) : Int)) rfl rfl (by omega) (by omega) ?_)
      refine A_take 9 rfl (by kernel_rfl) rfl hs (Y_idxStr (b := wd[i + 1]'(by omega)) (i + 1) Tryz.underlying9 rfl rfl (by omega) (str_at (List.getElem?_eq_getElem (by omega))) ?_)
      have hle := hs.le
      refine A_only 4 rfl (by kernel_rfl) rfl (S_call (H1 := []) hs rfl Tryz.func80 rfl (by kernel_rfl) (rdig_ok (x := (wd[i]'(by omega)))) fun v9 G' H' _ hR hG51 hs => ?_)
      obtain ⟨rfl, rfl⟩ := hR
      replace hs : St _ _ [_, _] _ := hs
      refine A_moreS hs hle hG51 (List.Sublist.refl _) ?_
      refine A_take 5 rfl (by kernel_rfl) rfl hs (Y_mul (c := ((16 * h : Nat) : Int)) rfl rfl (by rw [hh2]; omega) (by omega) ?_)
      have hle := hs.le
      refine A_only 10 rfl (by kernel_rfl) rfl (S_call (H1 := []) hs rfl Tryz.func80 rfl (by kernel_rfl) (rdig_ok (x := (wd[i + 1]'(by omega)))) fun v10 G' H' _ hR hG57 hs => ?_)
      obtain ⟨rfl, rfl⟩ := hR
      replace hs : St _ _ [_, _] _ := hs
      refine A_moreS hs hle hG57 (List.Sublist.refl _) ?_
      refine A_take 11 rfl (by kernel_rfl) rfl hs (Y_add (c := ((16 * h + l : Nat) : Int)) rfl rfl (by rw [hl2]; omega) (by omega) ?_)
      refine A_take 12 rfl (by kernel_rfl) rfl hs (Y_conv Tryz.underlying3 Tryz.underlying5 (c := ((UInt8.ofNat (16 * h + l)).toNat : Int)) rfl (u8wrap _) ?_)
      have hle := hs.le
      refine A_only 13 rfl (by kernel_rfl) rfl (S_lit hs Tryz.underlying25 Tryz.sizeOf5 Tryz.zeroValue5 rfl rfl (by decide) (by decide) rfl (cs := [_]) rfl rfl fun v11 _ hs _ => ?_)
      obtain ⟨_, hG60, hl60, hs⟩ := hs.fixRow (noMi 1 hs rfl)
      refine A_moreS hs hle hG60 (List.Sublist.refl _) ?_
      refine A_tail 14 rfl (by kernel_rfl) (by kernel_rfl) rfl (S_append hs Tryz.underlying25 TI5 rfl (by decide) rfl rfl (hl60) (one1 rfl) (by omega) (by omega) fun v12 _ hs => ?_)
      refine A_tail 15 rfl (by kernel_rfl) (by kernel_rfl) rfl (S_y hs rfl (Y_assign rfl ?_))
      refine A_done (by kernel_rfl) (T_kp [0, 3, 4, 5, 6] rfl ?_)
      refine T_region rfl ?_
      refine O_m rfl ?_
      refine O_y hs (Y_add (c := ((i + 2 : Nat) : Int)) rfl rfl (by omega) (by omega) ?_)
      refine O_a rfl ?_
      have hs := hs.f1
      have hs := hs.f1
      refine O_nil ⟨_, ?_, [(0, _), (3, _), (4, _), (5, _), (6, _)], ⟨rfl, rfl, rfl, rfl, rfl, trivial⟩, ⟨i + 2, out ++ [UInt8.ofNat (16 * h + l)], _, _, by omega, by omega, by simp; omega, ⟨by omega, hex_step (by omega) hh1 hl1 hhx⟩, rfl, rfl, by simpa [byteV] using hs⟩⟩
      omega
  ·
   dsimp only [cmpP] at h21
   refine O_nil (T_kp [0, 3, 4, 5, 6, 21] rfl ?_)
   refine T_condF rfl (T_exit ?_)
   refine T_seq (T_region rfl ?_)
   refine O_m rfl ?_
   refine O_a rfl ?_
   refine O_nil (T_kp [2] rfl ?_)
   refine T_ret ?_
   refine Rt_fin (vs := [_]) Tryz.results51 rfl ⟨rfl, trivial⟩ ?_
   try dsimp only [tup]
   obtain ⟨G9, hG9, hf, hs⟩ := hs.fixRow (noMi 0 hs rfl)
   have hil : i = wd.length := by omega
   have hgd : hexL wd = some out := by rw [hhx, hil, List.drop_length]; simp [hexL]
   exact ⟨_, _, hs, st2, out, rfl, hf, Got.of_eq hch (by split; exact (by rw [hexW_good h16 hgd]; exact ⟨ex_ok (by assumption), rfl⟩); exact ex_no (by assumption)), hpst2⟩

set_option maxHeartbeats 2000000 in
set_option maxRecDepth 10000 in
theorem revt_ok {G : Ghost} {p : Nat} {s : List UInt8} {st : PS} (hq : st.p ≤ s.length) (hl : s.length ≤ 2000000) (hor : st.err = 0) :
  FnOk Tryz.prog 27 [.pointer (some ⟨p, 0, none⟩)] G [.blk p 70 [.string ⟨s.toArray⟩, .int .i64 (st.p : Int), .int .i64 st.err, .int .i64 (st.off : Int)]] fun r G' H' => ∃ (st' : PS) (e : Ev) (vb : Value), H' = [.blk p 70 [.string ⟨s.toArray⟩, .int .i64 (st'.p : Int), .int .i64 st'.err, .int .i64 (st'.off : Int)]] ∧ r = .agg #[.int .i64 e.kind, .int .i64 e.a, .int .i64 e.c, vb] ∧ Bytes G' vb e.b ∧ Got (thenE st.ex (eventP s)) st' e ∧ st'.p ≤ s.length := by
 have hsz := bsz s
 refine FnOk.of_T [(0, _)] Tryz.func27 rfl Tryz.ntmps27 (by simp) rfl fun w0 hs => ?_
 refine T_seq (T_region rfl ?_)
 refine O_s (S_alloc hs Tryz.zeroValue36 (cs := [_, _, _, _]) rfl fun b2 _ hs => ?_)
 refine O_nil (T_kp [0, 2] rfl ?_)
 refine T_seq (T_region rfl ?_)
 refine O_m rfl ?_
 refine O_y hs (Y_nil rfl ?_)
 refine O_y hs (Y_fieldAddr FO70_1 rfl (m := 1) rfl ?_)
 refine O_y hs (Y_ld 1 Tryz.isAgg3 rfl rfl rfl ?_)
 refine O_a rfl ?_
 refine O_nil (T_kp [0, 2, 3] rfl ?_)
 refine T_seq (T_region rfl ?_)
 refine O_m rfl ?_
 have hs := hs.f1
 refine O_s (S_call (H1 := [_]) hs rfl Tryz.func48 rfl (by kernel_rfl) (rwrd_ok (st := st) (by assumption) hl) fun v1 G' H' _ hR hG12 hs => ?_)
 obtain ⟨st1, wd, rfl, rfl, hgst1, hpst1, hwst1⟩ := hR
 replace hs : St _ _ [_, _] _ := hs
 have hsw := bsz wd
 refine O_a rfl ?_
 refine O_nil (T_kp [0, 2, 3, 4] rfl ?_)
 refine T_seq (T_region rfl ?_)
 refine O_y hs (Y_build Tryz.zeroValue36 rfl PL36 rfl (cs := [_, _, _, _]) rfl ?_)
 refine O_s (S_alloc hs Tryz.zeroValue36 (cs := [_, _, _, _]) rfl fun b5 _ hs => ?_)
 refine O_n (S_stA hs Tryz.sizeOf36 rfl rfl (vs := [_, _, _, _]) rfl (rfl) (by simp) (cs' := [_, _, _, _]) rfl fun _ hs => ?_)
 refine O_nil (T_kp [0, 2, 3, 4, 5] rfl ?_)
 refine T_seq (T_seq (T_region rfl ?_))
 refine O_a rfl ?_
 refine O_nil (T_kp [0, 2, 3, 4, 5, 6] rfl ?_)
 have hs := hs.f2
 have hs := hs.f2
 have hs := hs.f2
 refine T_block (T_loop (fun m E w => ∃ (k K : Nat) (G2 : Ghost), 1 ≤ k ∧ k ≤ 10 ∧ K < k ∧ (¬ K = 0 → kwF K = wd) ∧ (K = 0 → ∀ i, 1 ≤ i → i < k → kwF i ≠ wd) ∧ m = 10 - k ∧ E = ⟨[], [(0, .pointer (some ⟨p, 0, none⟩)), (2, .pointer (some ⟨b2, 0, none⟩)), (3, .int .i64 (st.p : Int)), (4, .string ⟨wd.toArray⟩), (5, .pointer (some ⟨b5, 0, none⟩)), (6, .int .i64 (k : Int))]⟩ ∧ St ⟨w0, G, feet [.blk p 70 [.string ⟨s.toArray⟩, .int .i64 (st.p : Int), .int .i64 st.err, .int .i64 (st.off : Int)]]⟩ G2 [.blk b5 36 [.int .i64 (K : Int), .int .i64 0, .int .i64 0, .slice none 0 0], .blk p 70 [.string ⟨s.toArray⟩, .int .i64 (st1.p : Int), .int .i64 st1.err, .int .i64 (st1.off : Int)], .blk b2 36 [.int .i64 0, .int .i64 0, .int .i64 0, .slice none 0 0]] w) (L := [(0, _), (2, _), (3, _), (4, _), (5, _), (6, _)]) ⟨rfl, rfl, rfl, rfl, rfl, rfl, trivial⟩ (⟨1, 0, _, by omega, by omega, by omega, fun h => absurd rfl h, fun _ i h1 h2 => absurd h2 (by omega), rfl, rfl, hs⟩) fun m E w hI => ?_)
 obtain ⟨k, K, G2, hk1, hk, hK1, hK2, hK3, rfl, rfl, hs⟩ := hI
 refine T_seq (T_seq (T_region rfl ?_))
 refine O_m rfl ?_
 refine O_y hs (Y_cmpS rfl rfl rfl (fun h15 => ?_) (fun h15 => ?_))
 ·
  dsimp only [cmpP] at h15
  refine O_nil (T_kp [0, 2, 3, 4, 5, 6, 15] rfl ?_)
  refine T_condT rfl (T_skip ?_)
  refine T_seq (T_block (T_seq (T_region rfl ?_)))
  refine O_m rfl ?_
  refine O_s (S_call (H1 := []) hs rfl Tryz.func40 rfl (by kernel_rfl) (keyw_ok (k := (k : Int))) fun v2 G' H' _ hR hG19 hs => ?_)
  obtain ⟨rfl, rfl⟩ := hR
  replace hs : St _ _ [_, _, _] _ := hs
  refine O_m rfl ?_
  refine O_y hs (Y_strEqS (a := kwF k) (b := wd) rfl rfl (fun h21 => ?_) (fun h21 => ?_))
  ·
   refine O_nil (T_kp [0, 2, 3, 4, 5, 6, 21] rfl ?_)
   refine T_condT rfl (T_region rfl ?_)
   refine O_m rfl ?_
   refine O_y hs (Y_fieldAddr FO36_0 rfl (m := 0) rfl ?_)
   refine O_n (S_st hs Tryz.sizeOf3 rfl rfl rfl (by simp) (cs' := [_, _, _, _]) rfl fun _ hs => ?_)
   refine O_nil (T_kp [0, 2, 3, 4, 5, 6] rfl ?_)
   refine T_region rfl ?_
   refine O_m rfl ?_
   refine O_y hs (Y_add (c := ((k + 1 : Nat) : Int)) rfl rfl (by omega) (by omega) ?_)
   refine O_a rfl ?_
   have hs := hs.f2
   have hs := hs.f2
   have hs := hs.f2
   have hK1' : K = 0 := Classical.byContradiction fun h0 => by have := kw_inj ⟨K, by omega⟩ ⟨k, by omega⟩ (by show 1 ≤ K; omega) (by show 1 ≤ k; omega) ((hK2 h0).trans h21.symm); dsimp only at this; omega
   refine O_nil ⟨_, ?_, [(0, _), (2, _), (3, _), (4, _), (5, _), (6, _)], ⟨rfl, rfl, rfl, rfl, rfl, rfl, trivial⟩, ⟨k + 1, k, _, by omega, by omega, by omega, fun _ => h21, fun h => absurd h (by omega), rfl, rfl, hs.weak hs.le (Ghost.le.refl _) (List.sublist_append_left [_, _, _] _)⟩⟩
   omega
  ·
   refine O_nil (T_kp [0, 2, 3, 4, 5, 6, 21] rfl ?_)
   refine T_condF rfl (T_skip ?_)
   refine T_region rfl ?_
   refine O_m rfl ?_
   refine O_y hs (Y_add (c := ((k + 1 : Nat) : Int)) rfl rfl (by omega) (by omega) ?_)
   refine O_a rfl ?_
   have hs := hs.f2
   have hs := hs.f2
   have hs := hs.f2
   refine O_nil ⟨_, ?_, [(0, _), (2, _), (3, _), (4, _), (5, _), (6, _)], ⟨rfl, rfl, rfl, rfl, rfl, rfl, trivial⟩, ⟨k + 1, K, _, by omega, by omega, by omega, hK2, fun h0 i h1 h2 => (Nat.lt_or_ge i k).elim (hK3 h0 i h1) (fun h' => by rw [show i = k by omega]; exact h21), rfl, rfl, hs.weak hs.le (Ghost.le.refl _) (List.sublist_append_left [_, _, _] _)⟩⟩
   omega
 ·
  dsimp only [cmpP] at h15
  refine O_nil (T_kp [0, 2, 3, 4, 5, 6, 15] rfl ?_)
  refine T_condF rfl (T_exit ?_)
  refine T_seq (T_seq (T_region rfl ?_))
  refine O_y hs (Y_fieldAddr FO36_0 rfl (m := 0) rfl ?_)
  refine O_y hs (Y_ld 0 Tryz.isAgg3 rfl rfl rfl ?_)
  refine O_y hs (Y_cmpS rfl rfl rfl (fun h26 => ?_) (fun h26 => ?_))
  ·
   dsimp only [cmpP] at h26
   refine O_nil (T_kp [0, 2, 3, 5, 26] rfl ?_)
   refine T_condT rfl (T_seq (T_region rfl ?_))
   refine O_m rfl ?_
   refine O_m rfl ?_
   have hs := hs.f1
   refine O_s (S_call (H1 := [_]) hs rfl Tryz.func49 rfl (by kernel_rfl) (fail_ok_ (st := st1) (q := st.p) (e := 20)) fun v3 G' H' _ hR hG29 hs => ?_)
   obtain rfl := hR
   replace hs : St _ _ [_, _, _] _ := hs
   refine O_nil (T_kp [2, 5] rfl ?_)
   refine T_seq (T_region rfl ?_)
   refine O_y hs (Y_ldA 1 Tryz.isAgg36 Tryz.sizeOf36 rfl rfl (vs := [_, _, _, _]) rfl rfl ?_)
   have hs := hs.f2
   refine O_n (S_stA hs Tryz.sizeOf36 rfl rfl (vs := [_, _, _, _]) rfl (rfl) (by simp) (cs' := [_, _, _, _]) rfl fun _ hs => ?_)
   refine O_nil (T_kp [2] rfl ?_)
   refine T_ret ?_
   have hs := hs.f1
   have hr := hs
   refine Rt_fin (vs := [_]) Tryz.results27 rfl ⟨ResOk_blk 1 hr Tryz.isAgg36 Tryz.sizeOf36 rfl (cs := [_, _, _, _]) rfl rfl, trivial⟩ ?_
   try dsimp only [tup]
   have hK0 : K = 0 := by omega
   subst hK0
   exact ⟨_, _, hs.weak hs.le (Ghost.le.refl _) (List.sublist_append_left [_] _), st1.fail st.p 20, ⟨0, 0, 0, []⟩, _, rfl, rfl, Sl.nil _ _, ev_unknown hgst1 (kind_zero (fun i h1 h2 => hK3 rfl i h1 (by omega))) (.inl hor), by rw [fail_p]; exact hpst1⟩
  ·
   dsimp only [cmpP] at h26
   refine O_nil (T_kp [0, 2, 3, 5, 26] rfl ?_)
   refine T_condF rfl (T_skip ?_)
   refine T_seq (T_seq (T_region rfl ?_))
   refine O_y hs (Y_fieldAddr FO36_0 rfl (m := 0) rfl ?_)
   refine O_y hs (Y_ld 0 Tryz.isAgg3 rfl rfl rfl ?_)
   refine O_y hs (Y_cmpS rfl rfl rfl (fun h33 => ?_) (fun h33 => ?_))
   ·
    dsimp only [cmpP] at h33
    have hA : useA K = true := useA_om (k := (K : Int)).2 (by omega)
    refine O_nil (T_kp [0, 2, 5, 33] rfl ?_)
    refine T_condT rfl (T_region rfl ?_)
    refine O_m rfl ?_
    have hs := hs.f1
    refine O_s (S_call (H1 := [_]) hs rfl Tryz.func50 rfl (by kernel_rfl) (rnum_ok (st := st1) (by assumption) hl) fun v4 G' H' _ hR hG35 hs => ?_)
    obtain ⟨st2, a, rfl, rfl, hgst2, hpst2⟩ := hR
    replace hs : St _ _ [_, _, _] _ := hs
    have ra := aP_read (u := useA K) hA hgst2
    refine O_y hs (Y_fieldAddr FO36_1 rfl (m := 1) rfl ?_)
    have hs := hs.f1
    refine O_n (S_st hs Tryz.sizeOf3 rfl rfl rfl (by simp) (cs' := [_, _, _, _]) rfl fun _ hs => ?_)
    refine O_nil (T_kp [0, 2, 5] rfl ?_)
    refine T_seq (T_seq (T_region rfl ?_))
    refine O_y hs (Y_fieldAddr FO36_0 rfl (m := 0) rfl ?_)
    refine O_y hs (Y_ld 0 Tryz.isAgg3 rfl rfl rfl ?_)
    refine O_y hs (Y_cmpS rfl rfl rfl (fun h39 => ?_) (fun h39 => ?_))
    ·
     dsimp only [cmpP] at h39
     have hB : useB K = true := useB_om (k := (K : Int)).2 (by omega)
     refine O_nil (T_kp [0, 2, 5, 39] rfl ?_)
     refine T_condT rfl (T_region rfl ?_)
     refine O_m rfl ?_
     have hs := hs.f1
     refine O_s (S_call (H1 := [_]) hs rfl Tryz.func51 rfl (by kernel_rfl) (rbyt_ok (st := st2) (by assumption) hl) fun v5 G' H' _ hR hG41 hs => ?_)
     obtain ⟨st3, b, rfl, hb41, hgst3, hpst3⟩ := hR
     replace hs : St _ _ [_, _, _] _ := hs
     have rb := bP_read (u := useB K) hB hgst3
     refine O_y hs (Y_fieldAddr FO36_3 rfl (m := 3) rfl ?_)
     have hs := hs.f1
     refine O_n (S_st hs Tryz.sizeOf25 rfl rfl hb41.one (by simp) (cs' := [_, _, _, _]) rfl fun _ hs => ?_)
     refine O_nil (T_kp [0, 2, 5] rfl ?_)
     refine T_seq (T_seq (T_region rfl ?_))
     refine O_y hs (Y_fieldAddr FO36_0 rfl (m := 0) rfl ?_)
     refine O_y hs (Y_ld 0 Tryz.isAgg3 rfl rfl rfl ?_)
     refine O_s (S_call (H1 := []) hs rfl Tryz.func24 rfl (by kernel_rfl) (hasc_ok (k := (K : Int))) fun v6 G' H' _ hR hG45 hs => ?_)
     obtain ⟨rfl, rfl⟩ := hR
     replace hs : St _ _ [_, _, _] _ := hs
     replace hb41 := hb41.mono hG45
     cases hC : useC (K : Int).toNat
     ·
      have rc := aP_skip (s := s) (u := useC K) (st := st3) hC
      refine O_nil (T_kp [0, 2, 5, 45] rfl ?_)
      refine T_condF rfl (T_skip ?_)
      refine T_seq (T_region rfl ?_)
      refine O_m rfl ?_
      have hs := hs.f1
      refine O_s (S_call (H1 := [_]) hs rfl Tryz.func52 rfl (by kernel_rfl) (rexp_ok (st := st3) (b := 10) (by assumption) hl) fun v7 G' H' _ hR hG50 hs => ?_)
      obtain ⟨st5, rfl, hgst5, hpst5⟩ := hR
      replace hs : St _ _ [_, _, _] _ := hs
      replace hb41 := hb41.mono hG50
      refine O_nil (T_kp [2, 5] rfl ?_)
      refine T_seq (T_region rfl ?_)
      refine O_y hs (Y_ldA 1 Tryz.isAgg36 Tryz.sizeOf36 rfl rfl (vs := [_, _, _, _]) rfl rfl ?_)
      have hs := hs.f2
      refine O_n (S_stA hs Tryz.sizeOf36 rfl rfl (vs := [_, _, _, _]) rfl ((ev_all hb41)) (by simp) (cs' := [_, _, _, _]) rfl fun _ hs => ?_)
      refine O_nil (T_kp [2] rfl ?_)
      refine T_ret ?_
      have hs := hs.f1
      have hr := hs
      refine Rt_fin (vs := [_]) Tryz.results27 rfl ⟨ResOk_blk 1 hr Tryz.isAgg36 Tryz.sizeOf36 rfl (cs := [_, _, _, _]) rfl rfl, trivial⟩ ?_
      try dsimp only [tup]
      have hke := ev_word hgst1 (by omega) (by omega) (hK2 (by omega)) hwst1
      exact ⟨_, _, hs.weak hs.le (Ghost.le.refl _) (List.sublist_append_left [_] _), st5, ⟨(K : Int), (a : Nat), (0 : Nat), b⟩, _, rfl, rfl, hb41, Got.of_eq hke (args_got ra rb rc hgst5), hpst5⟩
     ·
      refine O_nil (T_kp [0, 2, 5, 45] rfl ?_)
      refine T_condT rfl (T_region rfl ?_)
      refine O_m rfl ?_
      have hs := hs.f1
      refine O_s (S_call (H1 := [_]) hs rfl Tryz.func50 rfl (by kernel_rfl) (rnum_ok (st := st3) (by assumption) hl) fun v8 G' H' _ hR hG47 hs => ?_)
      obtain ⟨st4, cc, rfl, rfl, hgst4, hpst4⟩ := hR
      replace hs : St _ _ [_, _, _] _ := hs
      replace hb41 := hb41.mono hG47
      have rc := aP_read (u := useC K) hC hgst4
      refine O_y hs (Y_fieldAddr FO36_2 rfl (m := 2) rfl ?_)
      have hs := hs.f1
      refine O_n (S_st hs Tryz.sizeOf3 rfl rfl rfl (by simp) (cs' := [_, _, _, _]) rfl fun _ hs => ?_)
      refine O_nil (T_kp [0, 2, 5] rfl ?_)
      refine T_seq (T_region rfl ?_)
      refine O_m rfl ?_
      have hs := hs.f1
      refine O_s (S_call (H1 := [_]) hs rfl Tryz.func52 rfl (by kernel_rfl) (rexp_ok (st := st4) (b := 10) (by assumption) hl) fun v9 G' H' _ hR hG50 hs => ?_)
      obtain ⟨st5, rfl, hgst5, hpst5⟩ := hR
      replace hs : St _ _ [_, _, _] _ := hs
      replace hb41 := hb41.mono hG50
      refine O_nil (T_kp [2, 5] rfl ?_)
      refine T_seq (T_region rfl ?_)
      refine O_y hs (Y_ldA 1 Tryz.isAgg36 Tryz.sizeOf36 rfl rfl (vs := [_, _, _, _]) rfl rfl ?_)
      have hs := hs.f2
      refine O_n (S_stA hs Tryz.sizeOf36 rfl rfl (vs := [_, _, _, _]) rfl ((ev_all hb41)) (by simp) (cs' := [_, _, _, _]) rfl fun _ hs => ?_)
      refine O_nil (T_kp [2] rfl ?_)
      refine T_ret ?_
      have hs := hs.f1
      have hr := hs
      refine Rt_fin (vs := [_]) Tryz.results27 rfl ⟨ResOk_blk 1 hr Tryz.isAgg36 Tryz.sizeOf36 rfl (cs := [_, _, _, _]) rfl rfl, trivial⟩ ?_
      try dsimp only [tup]
      have hke := ev_word hgst1 (by omega) (by omega) (hK2 (by omega)) hwst1
      exact ⟨_, _, hs.weak hs.le (Ghost.le.refl _) (List.sublist_append_left [_] _), st5, ⟨(K : Int), (a : Nat), (cc : Nat), b⟩, _, rfl, rfl, hb41, Got.of_eq hke (args_got ra rb rc hgst5), hpst5⟩
    ·
     dsimp only [cmpP] at h39
     have hB : useB K = false := Bool.eq_false_iff.2 fun h => by have := useB_om (k := (K : Int)).1 h; omega
     have rb := bP_skip (s := s) (st := st2) hB
     refine O_nil (T_kp [0, 2, 5, 39] rfl ?_)
     refine T_condF rfl (T_skip ?_)
     refine T_seq (T_seq (T_region rfl ?_))
     refine O_y hs (Y_fieldAddr FO36_0 rfl (m := 0) rfl ?_)
     refine O_y hs (Y_ld 0 Tryz.isAgg3 rfl rfl rfl ?_)
     refine O_s (S_call (H1 := []) hs rfl Tryz.func24 rfl (by kernel_rfl) (hasc_ok (k := (K : Int))) fun v10 G' H' _ hR hG45 hs => ?_)
     obtain ⟨rfl, rfl⟩ := hR
     replace hs : St _ _ [_, _, _] _ := hs
     cases hC : useC (K : Int).toNat
     ·
      have rc := aP_skip (s := s) (u := useC K) (st := st2) hC
      refine O_nil (T_kp [0, 2, 5, 45] rfl ?_)
      refine T_condF rfl (T_skip ?_)
      refine T_seq (T_region rfl ?_)
      refine O_m rfl ?_
      have hs := hs.f1
      refine O_s (S_call (H1 := [_]) hs rfl Tryz.func52 rfl (by kernel_rfl) (rexp_ok (st := st2) (b := 10) (by assumption) hl) fun v11 G' H' _ hR hG50 hs => ?_)
      obtain ⟨st5, rfl, hgst5, hpst5⟩ := hR
      replace hs : St _ _ [_, _, _] _ := hs
      refine O_nil (T_kp [2, 5] rfl ?_)
      refine T_seq (T_region rfl ?_)
      refine O_y hs (Y_ldA 1 Tryz.isAgg36 Tryz.sizeOf36 rfl rfl (vs := [_, _, _, _]) rfl rfl ?_)
      have hs := hs.f2
      refine O_n (S_stA hs Tryz.sizeOf36 rfl rfl (vs := [_, _, _, _]) rfl (rfl) (by simp) (cs' := [_, _, _, _]) rfl fun _ hs => ?_)
      refine O_nil (T_kp [2] rfl ?_)
      refine T_ret ?_
      have hs := hs.f1
      have hr := hs
      refine Rt_fin (vs := [_]) Tryz.results27 rfl ⟨ResOk_blk 1 hr Tryz.isAgg36 Tryz.sizeOf36 rfl (cs := [_, _, _, _]) rfl rfl, trivial⟩ ?_
      try dsimp only [tup]
      have hke := ev_word hgst1 (by omega) (by omega) (hK2 (by omega)) hwst1
      exact ⟨_, _, hs.weak hs.le (Ghost.le.refl _) (List.sublist_append_left [_] _), st5, ⟨(K : Int), (a : Nat), (0 : Nat), []⟩, _, rfl, rfl, (Sl.nil _ _), Got.of_eq hke (args_got ra rb rc hgst5), hpst5⟩
     ·
      refine O_nil (T_kp [0, 2, 5, 45] rfl ?_)
      refine T_condT rfl (T_region rfl ?_)
      refine O_m rfl ?_
      have hs := hs.f1
      refine O_s (S_call (H1 := [_]) hs rfl Tryz.func50 rfl (by kernel_rfl) (rnum_ok (st := st2) (by assumption) hl) fun v12 G' H' _ hR hG47 hs => ?_)
      obtain ⟨st4, cc, rfl, rfl, hgst4, hpst4⟩ := hR
      replace hs : St _ _ [_, _, _] _ := hs
      have rc := aP_read (u := useC K) hC hgst4
      refine O_y hs (Y_fieldAddr FO36_2 rfl (m := 2) rfl ?_)
      have hs := hs.f1
      refine O_n (S_st hs Tryz.sizeOf3 rfl rfl rfl (by simp) (cs' := [_, _, _, _]) rfl fun _ hs => ?_)
      refine O_nil (T_kp [0, 2, 5] rfl ?_)
      refine T_seq (T_region rfl ?_)
      refine O_m rfl ?_
      have hs := hs.f1
      refine O_s (S_call (H1 := [_]) hs rfl Tryz.func52 rfl (by kernel_rfl) (rexp_ok (st := st4) (b := 10) (by assumption) hl) fun v13 G' H' _ hR hG50 hs => ?_)
      obtain ⟨st5, rfl, hgst5, hpst5⟩ := hR
      replace hs : St _ _ [_, _, _] _ := hs
      refine O_nil (T_kp [2, 5] rfl ?_)
      refine T_seq (T_region rfl ?_)
      refine O_y hs (Y_ldA 1 Tryz.isAgg36 Tryz.sizeOf36 rfl rfl (vs := [_, _, _, _]) rfl rfl ?_)
      have hs := hs.f2
      refine O_n (S_stA hs Tryz.sizeOf36 rfl rfl (vs := [_, _, _, _]) rfl (rfl) (by simp) (cs' := [_, _, _, _]) rfl fun _ hs => ?_)
      refine O_nil (T_kp [2] rfl ?_)
      refine T_ret ?_
      have hs := hs.f1
      have hr := hs
      refine Rt_fin (vs := [_]) Tryz.results27 rfl ⟨ResOk_blk 1 hr Tryz.isAgg36 Tryz.sizeOf36 rfl (cs := [_, _, _, _]) rfl rfl, trivial⟩ ?_
      try dsimp only [tup]
      have hke := ev_word hgst1 (by omega) (by omega) (hK2 (by omega)) hwst1
      exact ⟨_, _, hs.weak hs.le (Ghost.le.refl _) (List.sublist_append_left [_] _), st5, ⟨(K : Int), (a : Nat), (cc : Nat), []⟩, _, rfl, rfl, (Sl.nil _ _), Got.of_eq hke (args_got ra rb rc hgst5), hpst5⟩
   ·
    dsimp only [cmpP] at h33
    have hA : useA K = false := Bool.eq_false_iff.2 fun h => by have := useA_om (k := (K : Int)).1 h; omega
    have ra := aP_skip (s := s) (st := st1) hA
    refine O_nil (T_kp [0, 2, 5, 33] rfl ?_)
    refine T_condF rfl (T_skip ?_)
    refine T_seq (T_seq (T_region rfl ?_))
    refine O_y hs (Y_fieldAddr FO36_0 rfl (m := 0) rfl ?_)
    refine O_y hs (Y_ld 0 Tryz.isAgg3 rfl rfl rfl ?_)
    refine O_y hs (Y_cmpS rfl rfl rfl (fun h39 => ?_) (fun h39 => ?_))
    ·
     dsimp only [cmpP] at h39
     have hB : useB K = true := useB_om (k := (K : Int)).2 (by omega)
     refine O_nil (T_kp [0, 2, 5, 39] rfl ?_)
     refine T_condT rfl (T_region rfl ?_)
     refine O_m rfl ?_
     have hs := hs.f1
     refine O_s (S_call (H1 := [_]) hs rfl Tryz.func51 rfl (by kernel_rfl) (rbyt_ok (st := st1) (by assumption) hl) fun v14 G' H' _ hR hG41 hs => ?_)
     obtain ⟨st3, b, rfl, hb41, hgst3, hpst3⟩ := hR
     replace hs : St _ _ [_, _, _] _ := hs
     have rb := bP_read (u := useB K) hB hgst3
     refine O_y hs (Y_fieldAddr FO36_3 rfl (m := 3) rfl ?_)
     have hs := hs.f1
     refine O_n (S_st hs Tryz.sizeOf25 rfl rfl hb41.one (by simp) (cs' := [_, _, _, _]) rfl fun _ hs => ?_)
     refine O_nil (T_kp [0, 2, 5] rfl ?_)
     refine T_seq (T_seq (T_region rfl ?_))
     refine O_y hs (Y_fieldAddr FO36_0 rfl (m := 0) rfl ?_)
     refine O_y hs (Y_ld 0 Tryz.isAgg3 rfl rfl rfl ?_)
     refine O_s (S_call (H1 := []) hs rfl Tryz.func24 rfl (by kernel_rfl) (hasc_ok (k := (K : Int))) fun v15 G' H' _ hR hG45 hs => ?_)
     obtain ⟨rfl, rfl⟩ := hR
     replace hs : St _ _ [_, _, _] _ := hs
     replace hb41 := hb41.mono hG45
     cases hC : useC (K : Int).toNat
     ·
      have rc := aP_skip (s := s) (u := useC K) (st := st3) hC
      refine O_nil (T_kp [0, 2, 5, 45] rfl ?_)
      refine T_condF rfl (T_skip ?_)
      refine T_seq (T_region rfl ?_)
      refine O_m rfl ?_
      have hs := hs.f1
      refine O_s (S_call (H1 := [_]) hs rfl Tryz.func52 rfl (by kernel_rfl) (rexp_ok (st := st3) (b := 10) (by assumption) hl) fun v16 G' H' _ hR hG50 hs => ?_)
      obtain ⟨st5, rfl, hgst5, hpst5⟩ := hR
      replace hs : St _ _ [_, _, _] _ := hs
      replace hb41 := hb41.mono hG50
      refine O_nil (T_kp [2, 5] rfl ?_)
      refine T_seq (T_region rfl ?_)
      refine O_y hs (Y_ldA 1 Tryz.isAgg36 Tryz.sizeOf36 rfl rfl (vs := [_, _, _, _]) rfl rfl ?_)
      have hs := hs.f2
      refine O_n (S_stA hs Tryz.sizeOf36 rfl rfl (vs := [_, _, _, _]) rfl ((ev_all hb41)) (by simp) (cs' := [_, _, _, _]) rfl fun _ hs => ?_)
      refine O_nil (T_kp [2] rfl ?_)
      refine T_ret ?_
      have hs := hs.f1
      have hr := hs
      refine Rt_fin (vs := [_]) Tryz.results27 rfl ⟨ResOk_blk 1 hr Tryz.isAgg36 Tryz.sizeOf36 rfl (cs := [_, _, _, _]) rfl rfl, trivial⟩ ?_
      try dsimp only [tup]
      have hke := ev_word hgst1 (by omega) (by omega) (hK2 (by omega)) hwst1
      exact ⟨_, _, hs.weak hs.le (Ghost.le.refl _) (List.sublist_append_left [_] _), st5, ⟨(K : Int), (0 : Nat), (0 : Nat), b⟩, _, rfl, rfl, hb41, Got.of_eq hke (args_got ra rb rc hgst5), hpst5⟩
     ·
      refine O_nil (T_kp [0, 2, 5, 45] rfl ?_)
      refine T_condT rfl (T_region rfl ?_)
      refine O_m rfl ?_
      have hs := hs.f1
      refine O_s (S_call (H1 := [_]) hs rfl Tryz.func50 rfl (by kernel_rfl) (rnum_ok (st := st3) (by assumption) hl) fun v17 G' H' _ hR hG47 hs => ?_)
      obtain ⟨st4, cc, rfl, rfl, hgst4, hpst4⟩ := hR
      replace hs : St _ _ [_, _, _] _ := hs
      replace hb41 := hb41.mono hG47
      have rc := aP_read (u := useC K) hC hgst4
      refine O_y hs (Y_fieldAddr FO36_2 rfl (m := 2) rfl ?_)
      have hs := hs.f1
      refine O_n (S_st hs Tryz.sizeOf3 rfl rfl rfl (by simp) (cs' := [_, _, _, _]) rfl fun _ hs => ?_)
      refine O_nil (T_kp [0, 2, 5] rfl ?_)
      refine T_seq (T_region rfl ?_)
      refine O_m rfl ?_
      have hs := hs.f1
      refine O_s (S_call (H1 := [_]) hs rfl Tryz.func52 rfl (by kernel_rfl) (rexp_ok (st := st4) (b := 10) (by assumption) hl) fun v18 G' H' _ hR hG50 hs => ?_)
      obtain ⟨st5, rfl, hgst5, hpst5⟩ := hR
      replace hs : St _ _ [_, _, _] _ := hs
      replace hb41 := hb41.mono hG50
      refine O_nil (T_kp [2, 5] rfl ?_)
      refine T_seq (T_region rfl ?_)
      refine O_y hs (Y_ldA 1 Tryz.isAgg36 Tryz.sizeOf36 rfl rfl (vs := [_, _, _, _]) rfl rfl ?_)
      have hs := hs.f2
      refine O_n (S_stA hs Tryz.sizeOf36 rfl rfl (vs := [_, _, _, _]) rfl ((ev_all hb41)) (by simp) (cs' := [_, _, _, _]) rfl fun _ hs => ?_)
      refine O_nil (T_kp [2] rfl ?_)
      refine T_ret ?_
      have hs := hs.f1
      have hr := hs
      refine Rt_fin (vs := [_]) Tryz.results27 rfl ⟨ResOk_blk 1 hr Tryz.isAgg36 Tryz.sizeOf36 rfl (cs := [_, _, _, _]) rfl rfl, trivial⟩ ?_
      try dsimp only [tup]
      have hke := ev_word hgst1 (by omega) (by omega) (hK2 (by omega)) hwst1
      exact ⟨_, _, hs.weak hs.le (Ghost.le.refl _) (List.sublist_append_left [_] _), st5, ⟨(K : Int), (0 : Nat), (cc : Nat), b⟩, _, rfl, rfl, hb41, Got.of_eq hke (args_got ra rb rc hgst5), hpst5⟩
    ·
     dsimp only [cmpP] at h39
     have hB : useB K = false := Bool.eq_false_iff.2 fun h => by have := useB_om (k := (K : Int)).1 h; omega
     have rb := bP_skip (s := s) (st := st1) hB
     refine O_nil (T_kp [0, 2, 5, 39] rfl ?_)
     refine T_condF rfl (T_skip ?_)
     refine T_seq (T_seq (T_region rfl ?_))
     refine O_y hs (Y_fieldAddr FO36_0 rfl (m := 0) rfl ?_)
     refine O_y hs (Y_ld 0 Tryz.isAgg3 rfl rfl rfl ?_)
     refine O_s (S_call (H1 := []) hs rfl Tryz.func24 rfl (by kernel_rfl) (hasc_ok (k := (K : Int))) fun v19 G' H' _ hR hG45 hs => ?_)
     obtain ⟨rfl, rfl⟩ := hR
     replace hs : St _ _ [_, _, _] _ := hs
     cases hC : useC (K : Int).toNat
     ·
      have rc := aP_skip (s := s) (u := useC K) (st := st1) hC
      refine O_nil (T_kp [0, 2, 5, 45] rfl ?_)
      refine T_condF rfl (T_skip ?_)
      refine T_seq (T_region rfl ?_)
      refine O_m rfl ?_
      have hs := hs.f1
      refine O_s (S_call (H1 := [_]) hs rfl Tryz.func52 rfl (by kernel_rfl) (rexp_ok (st := st1) (b := 10) (by assumption) hl) fun v20 G' H' _ hR hG50 hs => ?_)
      obtain ⟨st5, rfl, hgst5, hpst5⟩ := hR
      replace hs : St _ _ [_, _, _] _ := hs
      refine O_nil (T_kp [2, 5] rfl ?_)
      refine T_seq (T_region rfl ?_)
      refine O_y hs (Y_ldA 1 Tryz.isAgg36 Tryz.sizeOf36 rfl rfl (vs := [_, _, _, _]) rfl rfl ?_)
      have hs := hs.f2
      refine O_n (S_stA hs Tryz.sizeOf36 rfl rfl (vs := [_, _, _, _]) rfl (rfl) (by simp) (cs' := [_, _, _, _]) rfl fun _ hs => ?_)
      refine O_nil (T_kp [2] rfl ?_)
      refine T_ret ?_
      have hs := hs.f1
      have hr := hs
      refine Rt_fin (vs := [_]) Tryz.results27 rfl ⟨ResOk_blk 1 hr Tryz.isAgg36 Tryz.sizeOf36 rfl (cs := [_, _, _, _]) rfl rfl, trivial⟩ ?_
      try dsimp only [tup]
      have hke := ev_word hgst1 (by omega) (by omega) (hK2 (by omega)) hwst1
      exact ⟨_, _, hs.weak hs.le (Ghost.le.refl _) (List.sublist_append_left [_] _), st5, ⟨(K : Int), (0 : Nat), (0 : Nat), []⟩, _, rfl, rfl, (Sl.nil _ _), Got.of_eq hke (args_got ra rb rc hgst5), hpst5⟩
     ·
      refine O_nil (T_kp [0, 2, 5, 45] rfl ?_)
      refine T_condT rfl (T_region rfl ?_)
      refine O_m rfl ?_
      have hs := hs.f1
      refine O_s (S_call (H1 := [_]) hs rfl Tryz.func50 rfl (by kernel_rfl) (rnum_ok (st := st1) (by assumption) hl) fun v21 G' H' _ hR hG47 hs => ?_)
      obtain ⟨st4, cc, rfl, rfl, hgst4, hpst4⟩ := hR
      replace hs : St _ _ [_, _, _] _ := hs
      have rc := aP_read (u := useC K) hC hgst4
      refine O_y hs (Y_fieldAddr FO36_2 rfl (m := 2) rfl ?_)
      have hs := hs.f1
      refine O_n (S_st hs Tryz.sizeOf3 rfl rfl rfl (by simp) (cs' := [_, _, _, _]) rfl fun _ hs => ?_)
      refine O_nil (T_kp [0, 2, 5] rfl ?_)
      refine T_seq (T_region rfl ?_)
      refine O_m rfl ?_
      have hs := hs.f1
      refine O_s (S_call (H1 := [_]) hs rfl Tryz.func52 rfl (by kernel_rfl) (rexp_ok (st := st4) (b := 10) (by assumption) hl) fun v22 G' H' _ hR hG50 hs => ?_)
      obtain ⟨st5, rfl, hgst5, hpst5⟩ := hR
      replace hs : St _ _ [_, _, _] _ := hs
      refine O_nil (T_kp [2, 5] rfl ?_)
      refine T_seq (T_region rfl ?_)
      refine O_y hs (Y_ldA 1 Tryz.isAgg36 Tryz.sizeOf36 rfl rfl (vs := [_, _, _, _]) rfl rfl ?_)
      have hs := hs.f2
      refine O_n (S_stA hs Tryz.sizeOf36 rfl rfl (vs := [_, _, _, _]) rfl (rfl) (by simp) (cs' := [_, _, _, _]) rfl fun _ hs => ?_)
      refine O_nil (T_kp [2] rfl ?_)
      refine T_ret ?_
      have hs := hs.f1
      have hr := hs
      refine Rt_fin (vs := [_]) Tryz.results27 rfl ⟨ResOk_blk 1 hr Tryz.isAgg36 Tryz.sizeOf36 rfl (cs := [_, _, _, _]) rfl rfl, trivial⟩ ?_
      try dsimp only [tup]
      have hke := ev_word hgst1 (by omega) (by omega) (hK2 (by omega)) hwst1
      exact ⟨_, _, hs.weak hs.le (Ghost.le.refl _) (List.sublist_append_left [_] _), st5, ⟨(K : Int), (0 : Nat), (cc : Nat), []⟩, _, rfl, rfl, (Sl.nil _ _), Got.of_eq hke (args_got ra rb rc hgst5), hpst5⟩

end Go.Proofs.YtcnljflihhggiaaGreatDoor
