import Derived.Test.YtffbfibpfnlfeaaGreatDoorExWalks3
import Derived.Test.YtffbfibpfnlfeaaGreatDoorProg
import Derived.Test.YtffbfibpfnlfeaaGreatDoorPlain
import Derived.Test.YtffbfibpfnlfeaaGreatDoorShelf
namespace Go.Proofs.YtffbfibpfnlfeaaGreatDoor
open Go Go.Ex Go.RowKit


theorem tk_min (l : List UInt8) (k : Nat) : List.take (min l.length k - 0) (List.drop 0 l) = l.take k := by
  rw [List.drop_zero, Nat.sub_zero]
  rcases Nat.le_total l.length k with h | h
  · rw [Nat.min_eq_left h, List.take_length, List.take_of_length_le h]
  · rw [Nat.min_eq_right h]
theorem strL : ∀ i, i < 16 → (ByteArray.mk #[48, 49, 50, 51, 52, 53, 54, 55, 56, 57, 97, 98, 99, 100, 101, 102])[i]? = some ((hexS false).getD i 0) := by decide
theorem strU : ∀ i, i < 16 → (ByteArray.mk #[48, 49, 50, 51, 52, 53, 54, 55, 56, 57, 65, 66, 67, 68, 69, 70])[i]? = some ((hexS true).getD i 0) := by decide
theorem three1 {a b c : Value} (h1 : a.oneCell' = true) (h2 : b.oneCell' = true) (h3 : c.oneCell' = true) : ∀ y ∈ [a, b, c], y.oneCell' = true := by
  intro y hy
  simp only [List.mem_cons, List.not_mem_nil, or_false] at hy
  rcases hy with rfl | rfl | rfl <;> assumption


theorem copy_b {v : Value} {G : Ghost} {bs : List UInt8} (hb : Bytes G v bs) (hl : bs.length ≤ 1000000000) :
    FnOk Tryz.prog 27 [v] G [] fun r G' H' => H' = [] ∧ Bytes G' r bs := fun w hw => (copy_ok hb hl w hw).mono fun e w' ⟨v, G', H', he, hs, hR⟩ => by
  subst hR
  obtain ⟨G2, hG, hf, hs2⟩ := hs.fixRow noM
  exact ⟨v, G2, [], he, hs2, rfl, hf⟩


set_option maxHeartbeats 400000 in
set_option maxRecDepth 10000 in
theorem made_ok {G : Ghost} {v : Value} {o : OpV} (ho : OpR G v o) (hol : o.old.length ≤ 10000000) (hnl : o.new.length ≤ 10000000) :
    FnOk Tryz.prog 9 [v] G [] fun r G' H' => H' = [] ∧ OpR G' r (madeO o) := by
  obtain ⟨u1, u2, rfl, ho1, ho2⟩ := ho
  obtain ⟨A1, c1, rfl, _⟩ := id ho1
  obtain ⟨A2, c2, rfl, _⟩ := id ho2
  refine FnOk.of_T [(0, _)] Tryz.func9 rfl Tryz.ntmps9 (by simp) rfl fun w0 hs => ?_
  have ho10 := ho1
  have ho20 := ho2
  refine T_seq (T_region rfl ?_)
  refine O_s (S_box hs rfl (cs := [_, _, _]) rfl fun b1 _ hs => ?_)
  refine O_s (S_alloc hs Tryz.zeroValue24 (cs := [_, _, _]) rfl fun b2 _ hs => ?_)
  refine O_nil (T_sub [(1, _), (2, _)] ⟨rfl, rfl, trivial⟩ ?_)
  refine T_seq (T_region rfl ?_)
  refine O_y hs (Y_fieldAddr FO24_0 rfl (m := 0) rfl ?_)
  refine O_y hs (Y_ld 1 Tryz.isAgg3 rfl rfl rfl ?_)
  refine O_y hs (Y_conv Tryz.underlying3 Tryz.underlying55 (c := (o.kind % 18446744073709551616)) rfl (by rw [IntKind.wrap_u64]) ?_)
  refine O_y hs (Y_rem (c := (o.kind % 8)) rfl rfl (by omega) (by decide) (by omega) ?_)
  refine O_y hs (Y_conv Tryz.underlying55 Tryz.underlying3 (c := (o.kind % 8)) rfl (wrap64_eq (by omega)) ?_)
  refine O_y hs (Y_add (c := (1 + o.kind % 8)) rfl rfl (by omega) (by omega) ?_)
  refine O_y hs (Y_build Tryz.zeroValue24 rfl PL24 rfl (cs := [_, _, _]) rfl ?_)
  refine O_s (S_alloc hs Tryz.zeroValue24 (cs := [_, _, _]) rfl fun b3 _ hs => ?_)
  refine O_n (S_stA hs Tryz.sizeOf24 rfl rfl (vs := [_, _, _]) rfl (rfl) (by simp) (cs' := [_, _, _]) rfl fun _ hs => ?_)
  refine O_nil (T_sub [(1, _), (2, _), (3, _)] ⟨rfl, rfl, rfl, trivial⟩ ?_)
  refine T_seq (T_region rfl ?_)
  refine O_y hs (Y_fieldAddr FO24_1 rfl (m := 1) rfl ?_)
  refine O_y hs (Y_ld 2 Tryz.isAgg22 rfl rfl rfl ?_)
  refine O_s (S_call (H1 := []) hs rfl Tryz.func27 rfl (by kernel_rfl) (copy_ok ho1 (by omega)) fun v1 G' H' _ hR hG14 hs => ?_)
  obtain rfl := hR
  replace hs : St _ _ [_, _, _, _] _ := hs
  replace ho1 := ho1.mono hG14
  replace ho2 := ho2.mono hG14
  refine O_y hs (Y_assign rfl ?_)
  refine O_nil (T_sub [(1, _), (2, _), (3, _), (4, _)] ⟨rfl, rfl, rfl, rfl, trivial⟩ ?_)
  refine T_seq (T_seq (T_region rfl ?_))
  refine O_y hs (Y_move rfl ?_)
  refine O_y hs (Y_lenOwn 0 rfl Tryz.underlying22 rfl hs ?_)
  refine O_y hs (Y_cmpS rfl rfl rfl (fun h17 => ?_) (fun h17 => ?_))
  · -- h17: True
    dsimp only [cmpP] at h17
    refine O_nil (T_sub [(1, _), (2, _), (3, _), (4, _), (17, _)] ⟨rfl, rfl, rfl, rfl, rfl, trivial⟩ ?_)
    refine T_condT rfl (T_region rfl ?_)
    refine O_y hs (Y_move rfl ?_)
    refine O_s (S_lit hs Tryz.underlying22 Tryz.sizeOf5 Tryz.zeroValue5 rfl rfl (by decide) (by decide) rfl (cs := [_]) rfl rfl fun v2 _ hs _ => ?_)
    obtain ⟨_, hG19, hl19, hs⟩ := hs.fixRow noM
    replace ho1 := ho1.mono hG19
    replace ho2 := ho2.mono hG19
    refine O_s (S_append hs Tryz.underlying22 TI5 rfl (by decide) rfl rfl (hl19) (one1 rfl) (by omega) (by omega) fun v3 _ hs => ?_)
    refine O_y hs (Y_assign rfl ?_)
    refine O_nil (T_sub [(1, _), (2, _), (3, _), (4, _)] ⟨rfl, rfl, rfl, rfl, trivial⟩ ?_)
    obtain ⟨_, hGz, hold, hsz⟩ := hs.fixRow noM
    clear hs
    replace ho1 := ho1.mono hGz
    replace ho2 := ho2.mono hGz
    have hnil : o.old = [] := List.length_eq_zero_iff.1 (by omega)
    have hL : (if o.old = [] then [97] else o.old : List UInt8) = [97] := if_pos hnil
    replace hold : Bytes _ _ (if o.old = [] then [97] else o.old : List UInt8) := Bytes.ofSl hold (by rw [hL, hnil]; rfl) (by rw [hL, hnil]; rfl)
    have hp := oldP o.old
    obtain ⟨L, hLd⟩ : ∃ L, (if o.old = [] then [97] else o.old : List UInt8) = L := ⟨_, rfl⟩
    rw [hLd] at hold hp
    obtain ⟨A4, c4, rfl, _⟩ := id hold
    have hs := hsz
    refine T_seq (T_seq (T_region rfl ?_))
    refine O_y hs (Y_fieldAddr FO24_0 rfl (m := 0) rfl ?_)
    refine O_y hs (Y_ld 0 Tryz.isAgg3 rfl rfl rfl ?_)
    refine O_nil (T_sub [(1, _), (2, _), (3, _), (4, _), (22, _)] ⟨rfl, rfl, rfl, rfl, rfl, trivial⟩ ?_)
    refine T_block (T_seq (T_seq (T_region rfl ?_)))
    refine O_y hs (Y_cmpS rfl rfl rfl (fun h24 => ?_) (fun h24 => ?_))
    · -- h24: True
      dsimp only [cmpP] at h24
      refine O_y hs (Y_assign rfl ?_)
      refine O_nil (T_sub [(1, _), (2, _), (3, _), (4, _), (22, _), (23, _)] ⟨rfl, rfl, rfl, rfl, rfl, rfl, trivial⟩ ?_)
      refine T_condT rfl (T_skip ?_)
      refine T_condT rfl (T_seq (T_region rfl ?_))
      refine O_y hs (Y_move rfl ?_)
      refine O_y hs (Y_move rfl ?_)
      refine O_y hs (Y_len Tryz.underlying22 rfl ?_)
      refine O_y hs (Y_min (c := ((min L.length 4 : Nat) : Int)) rfl rfl (by omega) ?_)
      refine O_y hs (Y_sliceB hold 0 (min L.length 4) Tryz.underlying22 Tryz.sizeOf5 rfl rfl ⟨_, _, rfl, rfl⟩ (by omega) (by omega) fun s30 hs30 => ?_)
      obtain ⟨A30, c30, rfl, _⟩ := id hs30
      refine O_y hs (Y_fieldAddr FO24_1 rfl (m := 1) rfl ?_)
      refine O_n (S_st hs Tryz.sizeOf22 rfl rfl rfl (by simp) (cs' := [_, _, _]) rfl fun _ hs => ?_)
      refine O_nil (T_sub [(1, _), (2, _), (3, _)] ⟨rfl, rfl, rfl, trivial⟩ ?_)
      refine T_region rfl ?_
      refine O_y hs (Y_fieldAddr FO24_2 rfl (m := 2) rfl ?_)
      refine O_y hs (Y_ld 2 Tryz.isAgg22 rfl rfl rfl ?_)
      refine O_y hs (Y_fieldAddr FO24_2 rfl (m := 2) rfl ?_)
      refine O_y hs (Y_ld 2 Tryz.isAgg22 rfl rfl rfl ?_)
      refine O_y hs (Y_len Tryz.underlying22 rfl ?_)
      refine O_y hs (Y_min (c := ((min o.new.length 4 : Nat) : Int)) rfl rfl (by omega) ?_)
      refine O_y hs (Y_sliceB ho2 0 (min o.new.length 4) Tryz.underlying22 Tryz.sizeOf5 rfl rfl ⟨_, _, rfl, rfl⟩ (by omega) (by omega) fun s38 hs38 => ?_)
      obtain ⟨A38, c38, rfl, _⟩ := id hs38
      refine O_s (S_call (H1 := []) hs rfl Tryz.func27 rfl (by kernel_rfl) (copy_b hs38 (by rw [List.length_take, List.length_drop]; omega)) fun v4 G' H' _ hR hG39 hs => ?_)
      obtain ⟨rfl, hc39⟩ := hR
      obtain ⟨A39, c39, rfl, _⟩ := id hc39
      replace hs : St _ _ [_, _, _] _ := hs
      replace ho1 := ho1.mono hG39
      replace ho2 := ho2.mono hG39
      replace hold := hold.mono hG39
      replace hs30 := hs30.mono hG39
      replace hs38 := hs38.mono hG39
      refine O_y hs (Y_fieldAddr FO24_2 rfl (m := 2) rfl ?_)
      refine O_n (S_st hs Tryz.sizeOf22 rfl rfl rfl (by simp) (cs' := [_, _, _]) rfl fun _ hs => ?_)
      refine O_nil (T_sub [(2, _), (3, _)] ⟨rfl, rfl, trivial⟩ ?_)
      refine T_seq (T_region rfl ?_)
      refine O_y hs (Y_ldA 0 Tryz.isAgg24 Tryz.sizeOf24 rfl rfl (vs := [_, _, _]) rfl rfl ?_)
      have hs := hs.front 1 rfl (H' := [_, _, _]) rfl
      refine O_n (S_stA hs Tryz.sizeOf24 rfl rfl (vs := [_, _, _]) rfl (rfl) (by simp) (cs' := [_, _, _]) rfl fun _ hs => ?_)
      refine O_nil (T_sub [(2, _)] ⟨rfl, trivial⟩ ?_)
      refine T_ret ?_
      have hr := hs
      refine Rt_fin (vs := [_]) Tryz.results9 rfl ⟨ResOk_blk 0 hr Tryz.isAgg24 Tryz.sizeOf24 rfl (cs := [_, _, _]) rfl rfl, trivial⟩ ?_
      try dsimp only [tup]
      refine ⟨_, [], hs.done, rfl, ?_⟩
      unfold madeO
      rw [if_pos (by omega), hLd]
      exact ⟨_, _, rfl, Bytes.cast (tk_min _ _) hs30, Bytes.cast (tk_min _ _) hc39⟩
    · -- h24: False
      dsimp only [cmpP] at h24
      refine O_y hs (Y_assign rfl ?_)
      refine O_nil (T_sub [(1, _), (2, _), (3, _), (4, _), (22, _), (23, _)] ⟨rfl, rfl, rfl, rfl, rfl, rfl, trivial⟩ ?_)
      refine T_condF rfl (T_region rfl ?_)
      refine O_y hs (Y_cmpS rfl rfl rfl (fun h25 => ?_) (fun h25 => ?_))
      · -- h25: True
        dsimp only [cmpP] at h25
        refine O_y hs (Y_assign rfl ?_)
        refine O_nil (T_sub [(1, _), (2, _), (3, _), (4, _), (22, _), (23, _)] ⟨rfl, rfl, rfl, rfl, rfl, rfl, trivial⟩ ?_)
        refine T_condT rfl (T_seq (T_region rfl ?_))
        refine O_y hs (Y_move rfl ?_)
        refine O_y hs (Y_move rfl ?_)
        refine O_y hs (Y_len Tryz.underlying22 rfl ?_)
        refine O_y hs (Y_min (c := ((min L.length 4 : Nat) : Int)) rfl rfl (by omega) ?_)
        refine O_y hs (Y_sliceB hold 0 (min L.length 4) Tryz.underlying22 Tryz.sizeOf5 rfl rfl ⟨_, _, rfl, rfl⟩ (by omega) (by omega) fun s30 hs30 => ?_)
        obtain ⟨A30, c30, rfl, _⟩ := id hs30
        refine O_y hs (Y_fieldAddr FO24_1 rfl (m := 1) rfl ?_)
        refine O_n (S_st hs Tryz.sizeOf22 rfl rfl rfl (by simp) (cs' := [_, _, _]) rfl fun _ hs => ?_)
        refine O_nil (T_sub [(1, _), (2, _), (3, _)] ⟨rfl, rfl, rfl, trivial⟩ ?_)
        refine T_region rfl ?_
        refine O_y hs (Y_fieldAddr FO24_2 rfl (m := 2) rfl ?_)
        refine O_y hs (Y_ld 2 Tryz.isAgg22 rfl rfl rfl ?_)
        refine O_y hs (Y_fieldAddr FO24_2 rfl (m := 2) rfl ?_)
        refine O_y hs (Y_ld 2 Tryz.isAgg22 rfl rfl rfl ?_)
        refine O_y hs (Y_len Tryz.underlying22 rfl ?_)
        refine O_y hs (Y_min (c := ((min o.new.length 4 : Nat) : Int)) rfl rfl (by omega) ?_)
        refine O_y hs (Y_sliceB ho2 0 (min o.new.length 4) Tryz.underlying22 Tryz.sizeOf5 rfl rfl ⟨_, _, rfl, rfl⟩ (by omega) (by omega) fun s38 hs38 => ?_)
        obtain ⟨A38, c38, rfl, _⟩ := id hs38
        refine O_s (S_call (H1 := []) hs rfl Tryz.func27 rfl (by kernel_rfl) (copy_b hs38 (by rw [List.length_take, List.length_drop]; omega)) fun v5 G' H' _ hR hG39 hs => ?_)
        obtain ⟨rfl, hc39⟩ := hR
        obtain ⟨A39, c39, rfl, _⟩ := id hc39
        replace hs : St _ _ [_, _, _] _ := hs
        replace ho1 := ho1.mono hG39
        replace ho2 := ho2.mono hG39
        replace hold := hold.mono hG39
        replace hs30 := hs30.mono hG39
        replace hs38 := hs38.mono hG39
        refine O_y hs (Y_fieldAddr FO24_2 rfl (m := 2) rfl ?_)
        refine O_n (S_st hs Tryz.sizeOf22 rfl rfl rfl (by simp) (cs' := [_, _, _]) rfl fun _ hs => ?_)
        refine O_nil (T_sub [(2, _), (3, _)] ⟨rfl, rfl, trivial⟩ ?_)
        refine T_seq (T_region rfl ?_)
        refine O_y hs (Y_ldA 0 Tryz.isAgg24 Tryz.sizeOf24 rfl rfl (vs := [_, _, _]) rfl rfl ?_)
        have hs := hs.front 1 rfl (H' := [_, _, _]) rfl
        refine O_n (S_stA hs Tryz.sizeOf24 rfl rfl (vs := [_, _, _]) rfl (rfl) (by simp) (cs' := [_, _, _]) rfl fun _ hs => ?_)
        refine O_nil (T_sub [(2, _)] ⟨rfl, trivial⟩ ?_)
        refine T_ret ?_
        have hr := hs
        refine Rt_fin (vs := [_]) Tryz.results9 rfl ⟨ResOk_blk 0 hr Tryz.isAgg24 Tryz.sizeOf24 rfl (cs := [_, _, _]) rfl rfl, trivial⟩ ?_
        try dsimp only [tup]
        refine ⟨_, [], hs.done, rfl, ?_⟩
        unfold madeO
        rw [if_pos (by omega), hLd]
        exact ⟨_, _, rfl, Bytes.cast (tk_min _ _) hs30, Bytes.cast (tk_min _ _) hc39⟩
      · -- h25: False
        dsimp only [cmpP] at h25
        refine O_y hs (Y_assign rfl ?_)
        refine O_nil (T_sub [(1, _), (2, _), (3, _), (4, _), (22, _), (23, _)] ⟨rfl, rfl, rfl, rfl, rfl, rfl, trivial⟩ ?_)
        refine T_condF rfl (T_seq (T_region rfl ?_))
        refine O_y hs (Y_cmpS rfl rfl rfl (fun h42 => ?_) (fun h42 => ?_))
        · -- h42: True
          dsimp only [cmpP] at h42
          refine O_y hs (Y_assign rfl ?_)
          refine O_nil (T_sub [(2, _), (3, _), (4, _), (22, _), (41, _)] ⟨rfl, rfl, rfl, rfl, rfl, trivial⟩ ?_)
          refine T_condT rfl (T_region rfl ?_)
          refine O_y hs (Y_move rfl ?_)
          refine O_y hs (Y_move rfl ?_)
          refine O_y hs (Y_len Tryz.underlying22 rfl ?_)
          refine O_y hs (Y_min (c := ((min L.length 8 : Nat) : Int)) rfl rfl (by omega) ?_)
          refine O_y hs (Y_sliceB hold 0 (min L.length 8) Tryz.underlying22 Tryz.sizeOf5 rfl rfl ⟨_, _, rfl, rfl⟩ (by omega) (by omega) fun s47 hs47 => ?_)
          obtain ⟨A47, c47, rfl, _⟩ := id hs47
          refine O_y hs (Y_fieldAddr FO24_1 rfl (m := 1) rfl ?_)
          refine O_n (S_st hs Tryz.sizeOf22 rfl rfl rfl (by simp) (cs' := [_, _, _]) rfl fun _ hs => ?_)
          refine O_nil (T_sub [(2, _), (3, _)] ⟨rfl, rfl, trivial⟩ ?_)
          refine T_seq (T_region rfl ?_)
          refine O_y hs (Y_ldA 0 Tryz.isAgg24 Tryz.sizeOf24 rfl rfl (vs := [_, _, _]) rfl rfl ?_)
          have hs := hs.front 1 rfl (H' := [_, _, _]) rfl
          refine O_n (S_stA hs Tryz.sizeOf24 rfl rfl (vs := [_, _, _]) rfl (rfl) (by simp) (cs' := [_, _, _]) rfl fun _ hs => ?_)
          refine O_nil (T_sub [(2, _)] ⟨rfl, trivial⟩ ?_)
          refine T_ret ?_
          have hr := hs
          refine Rt_fin (vs := [_]) Tryz.results9 rfl ⟨ResOk_blk 0 hr Tryz.isAgg24 Tryz.sizeOf24 rfl (cs := [_, _, _]) rfl rfl, trivial⟩ ?_
          try dsimp only [tup]
          refine ⟨_, [], hs.done, rfl, ?_⟩
          unfold madeO
          rw [if_neg (by omega), if_pos (by omega), hLd]
          exact ⟨_, _, rfl, Bytes.cast (tk_min _ _) hs47, Sl.nil _ _⟩
        · -- h42: False
          dsimp only [cmpP] at h42
          refine O_y hs (Y_assign rfl ?_)
          refine O_nil (T_sub [(2, _), (3, _), (4, _), (22, _), (41, _)] ⟨rfl, rfl, rfl, rfl, rfl, trivial⟩ ?_)
          refine T_condF rfl (T_seq (T_region rfl ?_))
          refine O_y hs (Y_cmpS rfl rfl rfl (fun h50 => ?_) (fun h50 => ?_))
          · -- h50: True
            dsimp only [cmpP] at h50
            refine O_y hs (Y_assign rfl ?_)
            refine O_nil (T_sub [(2, _), (3, _), (4, _), (49, _)] ⟨rfl, rfl, rfl, rfl, trivial⟩ ?_)
            refine T_condT rfl (T_region rfl ?_)
            refine O_y hs (Y_move rfl ?_)
            refine O_y hs (Y_sliceB hold 0 1 Tryz.underlying22 Tryz.sizeOf5 rfl rfl ⟨_, _, rfl, rfl⟩ (by omega) (by omega) fun s52 hs52 => ?_)
            obtain ⟨A52, c52, rfl, _⟩ := id hs52
            refine O_y hs (Y_fieldAddr FO24_1 rfl (m := 1) rfl ?_)
            refine O_n (S_st hs Tryz.sizeOf22 rfl rfl rfl (by simp) (cs' := [_, _, _]) rfl fun _ hs => ?_)
            refine O_nil (T_sub [(2, _), (3, _)] ⟨rfl, rfl, trivial⟩ ?_)
            refine T_seq (T_region rfl ?_)
            refine O_y hs (Y_ldA 0 Tryz.isAgg24 Tryz.sizeOf24 rfl rfl (vs := [_, _, _]) rfl rfl ?_)
            have hs := hs.front 1 rfl (H' := [_, _, _]) rfl
            refine O_n (S_stA hs Tryz.sizeOf24 rfl rfl (vs := [_, _, _]) rfl (rfl) (by simp) (cs' := [_, _, _]) rfl fun _ hs => ?_)
            refine O_nil (T_sub [(2, _)] ⟨rfl, trivial⟩ ?_)
            refine T_ret ?_
            have hr := hs
            refine Rt_fin (vs := [_]) Tryz.results9 rfl ⟨ResOk_blk 0 hr Tryz.isAgg24 Tryz.sizeOf24 rfl (cs := [_, _, _]) rfl rfl, trivial⟩ ?_
            try dsimp only [tup]
            refine ⟨_, [], hs.done, rfl, ?_⟩
            unfold madeO
            rw [if_neg (by omega), if_neg (by omega), if_pos (by omega), hLd]
            exact ⟨_, _, rfl, Bytes.cast rfl hs52, Sl.nil _ _⟩
          · -- h50: False
            dsimp only [cmpP] at h50
            refine O_y hs (Y_assign rfl ?_)
            refine O_nil (T_sub [(2, _), (3, _), (4, _), (49, _)] ⟨rfl, rfl, rfl, rfl, trivial⟩ ?_)
            refine T_condF rfl (T_skip ?_)
            refine T_seq (T_region rfl ?_)
            refine O_y hs (Y_ldA 0 Tryz.isAgg24 Tryz.sizeOf24 rfl rfl (vs := [_, _, _]) rfl rfl ?_)
            have hs := hs.front 1 rfl (H' := [_, _, _]) rfl
            refine O_n (S_stA hs Tryz.sizeOf24 rfl rfl (vs := [_, _, _]) rfl (rfl) (by simp) (cs' := [_, _, _]) rfl fun _ hs => ?_)
            refine O_nil (T_sub [(2, _)] ⟨rfl, trivial⟩ ?_)
            refine T_ret ?_
            have hr := hs
            refine Rt_fin (vs := [_]) Tryz.results9 rfl ⟨ResOk_blk 0 hr Tryz.isAgg24 Tryz.sizeOf24 rfl (cs := [_, _, _]) rfl rfl, trivial⟩ ?_
            try dsimp only [tup]
            refine ⟨_, [], hs.done, rfl, ?_⟩
            unfold madeO
            rw [if_neg (by omega), if_neg (by omega), if_neg (by omega)]
            exact ⟨_, _, rfl, Sl.nil _ _, Sl.nil _ _⟩
  · -- h17: False
    dsimp only [cmpP] at h17
    refine O_nil (T_sub [(1, _), (2, _), (3, _), (4, _), (17, _)] ⟨rfl, rfl, rfl, rfl, rfl, trivial⟩ ?_)
    refine T_condF rfl (T_skip ?_)
    obtain ⟨_, hGz, hold, hsz⟩ := hs.fixRow noM
    clear hs
    replace ho1 := ho1.mono hGz
    replace ho2 := ho2.mono hGz
    have hnil : ¬ o.old = [] := fun h => by rw [h] at h17; simp at h17
    have hL : (if o.old = [] then [97] else o.old : List UInt8) = o.old := if_neg hnil
    replace hold : Bytes _ _ (if o.old = [] then [97] else o.old : List UInt8) := Bytes.ofSl hold (by rw [hL]) (by rw [hL])
    have hp := oldP o.old
    obtain ⟨L, hLd⟩ : ∃ L, (if o.old = [] then [97] else o.old : List UInt8) = L := ⟨_, rfl⟩
    rw [hLd] at hold hp
    obtain ⟨A4, c4, rfl, _⟩ := id hold
    have hs := hsz
    refine T_seq (T_seq (T_region rfl ?_))
    refine O_y hs (Y_fieldAddr FO24_0 rfl (m := 0) rfl ?_)
    refine O_y hs (Y_ld 0 Tryz.isAgg3 rfl rfl rfl ?_)
    refine O_nil (T_sub [(1, _), (2, _), (3, _), (4, _), (22, _)] ⟨rfl, rfl, rfl, rfl, rfl, trivial⟩ ?_)
    refine T_block (T_seq (T_seq (T_region rfl ?_)))
    refine O_y hs (Y_cmpS rfl rfl rfl (fun h24 => ?_) (fun h24 => ?_))
    · -- h24: True
      dsimp only [cmpP] at h24
      refine O_y hs (Y_assign rfl ?_)
      refine O_nil (T_sub [(1, _), (2, _), (3, _), (4, _), (22, _), (23, _)] ⟨rfl, rfl, rfl, rfl, rfl, rfl, trivial⟩ ?_)
      refine T_condT rfl (T_skip ?_)
      refine T_condT rfl (T_seq (T_region rfl ?_))
      refine O_y hs (Y_move rfl ?_)
      refine O_y hs (Y_move rfl ?_)
      refine O_y hs (Y_len Tryz.underlying22 rfl ?_)
      refine O_y hs (Y_min (c := ((min L.length 4 : Nat) : Int)) rfl rfl (by omega) ?_)
      refine O_y hs (Y_sliceB hold 0 (min L.length 4) Tryz.underlying22 Tryz.sizeOf5 rfl rfl ⟨_, _, rfl, rfl⟩ (by omega) (by omega) fun s30 hs30 => ?_)
      obtain ⟨A30, c30, rfl, _⟩ := id hs30
      refine O_y hs (Y_fieldAddr FO24_1 rfl (m := 1) rfl ?_)
      refine O_n (S_st hs Tryz.sizeOf22 rfl rfl rfl (by simp) (cs' := [_, _, _]) rfl fun _ hs => ?_)
      refine O_nil (T_sub [(1, _), (2, _), (3, _)] ⟨rfl, rfl, rfl, trivial⟩ ?_)
      refine T_region rfl ?_
      refine O_y hs (Y_fieldAddr FO24_2 rfl (m := 2) rfl ?_)
      refine O_y hs (Y_ld 2 Tryz.isAgg22 rfl rfl rfl ?_)
      refine O_y hs (Y_fieldAddr FO24_2 rfl (m := 2) rfl ?_)
      refine O_y hs (Y_ld 2 Tryz.isAgg22 rfl rfl rfl ?_)
      refine O_y hs (Y_len Tryz.underlying22 rfl ?_)
      refine O_y hs (Y_min (c := ((min o.new.length 4 : Nat) : Int)) rfl rfl (by omega) ?_)
      refine O_y hs (Y_sliceB ho2 0 (min o.new.length 4) Tryz.underlying22 Tryz.sizeOf5 rfl rfl ⟨_, _, rfl, rfl⟩ (by omega) (by omega) fun s38 hs38 => ?_)
      obtain ⟨A38, c38, rfl, _⟩ := id hs38
      refine O_s (S_call (H1 := []) hs rfl Tryz.func27 rfl (by kernel_rfl) (copy_b hs38 (by rw [List.length_take, List.length_drop]; omega)) fun v6 G' H' _ hR hG39 hs => ?_)
      obtain ⟨rfl, hc39⟩ := hR
      obtain ⟨A39, c39, rfl, _⟩ := id hc39
      replace hs : St _ _ [_, _, _] _ := hs
      replace ho1 := ho1.mono hG39
      replace ho2 := ho2.mono hG39
      replace hold := hold.mono hG39
      replace hs30 := hs30.mono hG39
      replace hs38 := hs38.mono hG39
      refine O_y hs (Y_fieldAddr FO24_2 rfl (m := 2) rfl ?_)
      refine O_n (S_st hs Tryz.sizeOf22 rfl rfl rfl (by simp) (cs' := [_, _, _]) rfl fun _ hs => ?_)
      refine O_nil (T_sub [(2, _), (3, _)] ⟨rfl, rfl, trivial⟩ ?_)
      refine T_seq (T_region rfl ?_)
      refine O_y hs (Y_ldA 0 Tryz.isAgg24 Tryz.sizeOf24 rfl rfl (vs := [_, _, _]) rfl rfl ?_)
      have hs := hs.front 1 rfl (H' := [_, _, _]) rfl
      refine O_n (S_stA hs Tryz.sizeOf24 rfl rfl (vs := [_, _, _]) rfl (rfl) (by simp) (cs' := [_, _, _]) rfl fun _ hs => ?_)
      refine O_nil (T_sub [(2, _)] ⟨rfl, trivial⟩ ?_)
      refine T_ret ?_
      have hr := hs
      refine Rt_fin (vs := [_]) Tryz.results9 rfl ⟨ResOk_blk 0 hr Tryz.isAgg24 Tryz.sizeOf24 rfl (cs := [_, _, _]) rfl rfl, trivial⟩ ?_
      try dsimp only [tup]
      refine ⟨_, [], hs.done, rfl, ?_⟩
      unfold madeO
      rw [if_pos (by omega), hLd]
      exact ⟨_, _, rfl, Bytes.cast (tk_min _ _) hs30, Bytes.cast (tk_min _ _) hc39⟩
    · -- h24: False
      dsimp only [cmpP] at h24
      refine O_y hs (Y_assign rfl ?_)
      refine O_nil (T_sub [(1, _), (2, _), (3, _), (4, _), (22, _), (23, _)] ⟨rfl, rfl, rfl, rfl, rfl, rfl, trivial⟩ ?_)
      refine T_condF rfl (T_region rfl ?_)
      refine O_y hs (Y_cmpS rfl rfl rfl (fun h25 => ?_) (fun h25 => ?_))
      · -- h25: True
        dsimp only [cmpP] at h25
        refine O_y hs (Y_assign rfl ?_)
        refine O_nil (T_sub [(1, _), (2, _), (3, _), (4, _), (22, _), (23, _)] ⟨rfl, rfl, rfl, rfl, rfl, rfl, trivial⟩ ?_)
        refine T_condT rfl (T_seq (T_region rfl ?_))
        refine O_y hs (Y_move rfl ?_)
        refine O_y hs (Y_move rfl ?_)
        refine O_y hs (Y_len Tryz.underlying22 rfl ?_)
        refine O_y hs (Y_min (c := ((min L.length 4 : Nat) : Int)) rfl rfl (by omega) ?_)
        refine O_y hs (Y_sliceB hold 0 (min L.length 4) Tryz.underlying22 Tryz.sizeOf5 rfl rfl ⟨_, _, rfl, rfl⟩ (by omega) (by omega) fun s30 hs30 => ?_)
        obtain ⟨A30, c30, rfl, _⟩ := id hs30
        refine O_y hs (Y_fieldAddr FO24_1 rfl (m := 1) rfl ?_)
        refine O_n (S_st hs Tryz.sizeOf22 rfl rfl rfl (by simp) (cs' := [_, _, _]) rfl fun _ hs => ?_)
        refine O_nil (T_sub [(1, _), (2, _), (3, _)] ⟨rfl, rfl, rfl, trivial⟩ ?_)
        refine T_region rfl ?_
        refine O_y hs (Y_fieldAddr FO24_2 rfl (m := 2) rfl ?_)
        refine O_y hs (Y_ld 2 Tryz.isAgg22 rfl rfl rfl ?_)
        refine O_y hs (Y_fieldAddr FO24_2 rfl (m := 2) rfl ?_)
        refine O_y hs (Y_ld 2 Tryz.isAgg22 rfl rfl rfl ?_)
        refine O_y hs (Y_len Tryz.underlying22 rfl ?_)
        refine O_y hs (Y_min (c := ((min o.new.length 4 : Nat) : Int)) rfl rfl (by omega) ?_)
        refine O_y hs (Y_sliceB ho2 0 (min o.new.length 4) Tryz.underlying22 Tryz.sizeOf5 rfl rfl ⟨_, _, rfl, rfl⟩ (by omega) (by omega) fun s38 hs38 => ?_)
        obtain ⟨A38, c38, rfl, _⟩ := id hs38
        refine O_s (S_call (H1 := []) hs rfl Tryz.func27 rfl (by kernel_rfl) (copy_b hs38 (by rw [List.length_take, List.length_drop]; omega)) fun v7 G' H' _ hR hG39 hs => ?_)
        obtain ⟨rfl, hc39⟩ := hR
        obtain ⟨A39, c39, rfl, _⟩ := id hc39
        replace hs : St _ _ [_, _, _] _ := hs
        replace ho1 := ho1.mono hG39
        replace ho2 := ho2.mono hG39
        replace hold := hold.mono hG39
        replace hs30 := hs30.mono hG39
        replace hs38 := hs38.mono hG39
        refine O_y hs (Y_fieldAddr FO24_2 rfl (m := 2) rfl ?_)
        refine O_n (S_st hs Tryz.sizeOf22 rfl rfl rfl (by simp) (cs' := [_, _, _]) rfl fun _ hs => ?_)
        refine O_nil (T_sub [(2, _), (3, _)] ⟨rfl, rfl, trivial⟩ ?_)
        refine T_seq (T_region rfl ?_)
        refine O_y hs (Y_ldA 0 Tryz.isAgg24 Tryz.sizeOf24 rfl rfl (vs := [_, _, _]) rfl rfl ?_)
        have hs := hs.front 1 rfl (H' := [_, _, _]) rfl
        refine O_n (S_stA hs Tryz.sizeOf24 rfl rfl (vs := [_, _, _]) rfl (rfl) (by simp) (cs' := [_, _, _]) rfl fun _ hs => ?_)
        refine O_nil (T_sub [(2, _)] ⟨rfl, trivial⟩ ?_)
        refine T_ret ?_
        have hr := hs
        refine Rt_fin (vs := [_]) Tryz.results9 rfl ⟨ResOk_blk 0 hr Tryz.isAgg24 Tryz.sizeOf24 rfl (cs := [_, _, _]) rfl rfl, trivial⟩ ?_
        try dsimp only [tup]
        refine ⟨_, [], hs.done, rfl, ?_⟩
        unfold madeO
        rw [if_pos (by omega), hLd]
        exact ⟨_, _, rfl, Bytes.cast (tk_min _ _) hs30, Bytes.cast (tk_min _ _) hc39⟩
      · -- h25: False
        dsimp only [cmpP] at h25
        refine O_y hs (Y_assign rfl ?_)
        refine O_nil (T_sub [(1, _), (2, _), (3, _), (4, _), (22, _), (23, _)] ⟨rfl, rfl, rfl, rfl, rfl, rfl, trivial⟩ ?_)
        refine T_condF rfl (T_seq (T_region rfl ?_))
        refine O_y hs (Y_cmpS rfl rfl rfl (fun h42 => ?_) (fun h42 => ?_))
        · -- h42: True
          dsimp only [cmpP] at h42
          refine O_y hs (Y_assign rfl ?_)
          refine O_nil (T_sub [(2, _), (3, _), (4, _), (22, _), (41, _)] ⟨rfl, rfl, rfl, rfl, rfl, trivial⟩ ?_)
          refine T_condT rfl (T_region rfl ?_)
          refine O_y hs (Y_move rfl ?_)
          refine O_y hs (Y_move rfl ?_)
          refine O_y hs (Y_len Tryz.underlying22 rfl ?_)
          refine O_y hs (Y_min (c := ((min L.length 8 : Nat) : Int)) rfl rfl (by omega) ?_)
          refine O_y hs (Y_sliceB hold 0 (min L.length 8) Tryz.underlying22 Tryz.sizeOf5 rfl rfl ⟨_, _, rfl, rfl⟩ (by omega) (by omega) fun s47 hs47 => ?_)
          obtain ⟨A47, c47, rfl, _⟩ := id hs47
          refine O_y hs (Y_fieldAddr FO24_1 rfl (m := 1) rfl ?_)
          refine O_n (S_st hs Tryz.sizeOf22 rfl rfl rfl (by simp) (cs' := [_, _, _]) rfl fun _ hs => ?_)
          refine O_nil (T_sub [(2, _), (3, _)] ⟨rfl, rfl, trivial⟩ ?_)
          refine T_seq (T_region rfl ?_)
          refine O_y hs (Y_ldA 0 Tryz.isAgg24 Tryz.sizeOf24 rfl rfl (vs := [_, _, _]) rfl rfl ?_)
          have hs := hs.front 1 rfl (H' := [_, _, _]) rfl
          refine O_n (S_stA hs Tryz.sizeOf24 rfl rfl (vs := [_, _, _]) rfl (rfl) (by simp) (cs' := [_, _, _]) rfl fun _ hs => ?_)
          refine O_nil (T_sub [(2, _)] ⟨rfl, trivial⟩ ?_)
          refine T_ret ?_
          have hr := hs
          refine Rt_fin (vs := [_]) Tryz.results9 rfl ⟨ResOk_blk 0 hr Tryz.isAgg24 Tryz.sizeOf24 rfl (cs := [_, _, _]) rfl rfl, trivial⟩ ?_
          try dsimp only [tup]
          refine ⟨_, [], hs.done, rfl, ?_⟩
          unfold madeO
          rw [if_neg (by omega), if_pos (by omega), hLd]
          exact ⟨_, _, rfl, Bytes.cast (tk_min _ _) hs47, Sl.nil _ _⟩
        · -- h42: False
          dsimp only [cmpP] at h42
          refine O_y hs (Y_assign rfl ?_)
          refine O_nil (T_sub [(2, _), (3, _), (4, _), (22, _), (41, _)] ⟨rfl, rfl, rfl, rfl, rfl, trivial⟩ ?_)
          refine T_condF rfl (T_seq (T_region rfl ?_))
          refine O_y hs (Y_cmpS rfl rfl rfl (fun h50 => ?_) (fun h50 => ?_))
          · -- h50: True
            dsimp only [cmpP] at h50
            refine O_y hs (Y_assign rfl ?_)
            refine O_nil (T_sub [(2, _), (3, _), (4, _), (49, _)] ⟨rfl, rfl, rfl, rfl, trivial⟩ ?_)
            refine T_condT rfl (T_region rfl ?_)
            refine O_y hs (Y_move rfl ?_)
            refine O_y hs (Y_sliceB hold 0 1 Tryz.underlying22 Tryz.sizeOf5 rfl rfl ⟨_, _, rfl, rfl⟩ (by omega) (by omega) fun s52 hs52 => ?_)
            obtain ⟨A52, c52, rfl, _⟩ := id hs52
            refine O_y hs (Y_fieldAddr FO24_1 rfl (m := 1) rfl ?_)
            refine O_n (S_st hs Tryz.sizeOf22 rfl rfl rfl (by simp) (cs' := [_, _, _]) rfl fun _ hs => ?_)
            refine O_nil (T_sub [(2, _), (3, _)] ⟨rfl, rfl, trivial⟩ ?_)
            refine T_seq (T_region rfl ?_)
            refine O_y hs (Y_ldA 0 Tryz.isAgg24 Tryz.sizeOf24 rfl rfl (vs := [_, _, _]) rfl rfl ?_)
            have hs := hs.front 1 rfl (H' := [_, _, _]) rfl
            refine O_n (S_stA hs Tryz.sizeOf24 rfl rfl (vs := [_, _, _]) rfl (rfl) (by simp) (cs' := [_, _, _]) rfl fun _ hs => ?_)
            refine O_nil (T_sub [(2, _)] ⟨rfl, trivial⟩ ?_)
            refine T_ret ?_
            have hr := hs
            refine Rt_fin (vs := [_]) Tryz.results9 rfl ⟨ResOk_blk 0 hr Tryz.isAgg24 Tryz.sizeOf24 rfl (cs := [_, _, _]) rfl rfl, trivial⟩ ?_
            try dsimp only [tup]
            refine ⟨_, [], hs.done, rfl, ?_⟩
            unfold madeO
            rw [if_neg (by omega), if_neg (by omega), if_pos (by omega), hLd]
            exact ⟨_, _, rfl, Bytes.cast rfl hs52, Sl.nil _ _⟩
          · -- h50: False
            dsimp only [cmpP] at h50
            refine O_y hs (Y_assign rfl ?_)
            refine O_nil (T_sub [(2, _), (3, _), (4, _), (49, _)] ⟨rfl, rfl, rfl, rfl, trivial⟩ ?_)
            refine T_condF rfl (T_skip ?_)
            refine T_seq (T_region rfl ?_)
            refine O_y hs (Y_ldA 0 Tryz.isAgg24 Tryz.sizeOf24 rfl rfl (vs := [_, _, _]) rfl rfl ?_)
            have hs := hs.front 1 rfl (H' := [_, _, _]) rfl
            refine O_n (S_stA hs Tryz.sizeOf24 rfl rfl (vs := [_, _, _]) rfl (rfl) (by simp) (cs' := [_, _, _]) rfl fun _ hs => ?_)
            refine O_nil (T_sub [(2, _)] ⟨rfl, trivial⟩ ?_)
            refine T_ret ?_
            have hr := hs
            refine Rt_fin (vs := [_]) Tryz.results9 rfl ⟨ResOk_blk 0 hr Tryz.isAgg24 Tryz.sizeOf24 rfl (cs := [_, _, _]) rfl rfl, trivial⟩ ?_
            try dsimp only [tup]
            refine ⟨_, [], hs.done, rfl, ?_⟩
            unfold madeO
            rw [if_neg (by omega), if_neg (by omega), if_neg (by omega)]
            exact ⟨_, _, rfl, Sl.nil _ _, Sl.nil _ _⟩

end Go.Proofs.YtffbfibpfnlfeaaGreatDoor
