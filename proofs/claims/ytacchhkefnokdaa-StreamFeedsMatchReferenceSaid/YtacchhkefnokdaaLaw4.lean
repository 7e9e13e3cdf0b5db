import Derived.Test.YtacchhkefnokdaaExWalks
import Derived.Test.YtacchhkefnokdaaExMore
import Derived.Test.YtacchhkefnokdaaPlain
namespace Go.Proofs.Ytacchhkefnokdaa
open Go Go.Ex Go.RowKit


set_option maxHeartbeats 400000 in
set_option maxRecDepth 10000 in
theorem law4 {vL vT vC vb : Value} {G : Ghost} {L : List (List UInt8)} {T : List UInt8} {C : List Int} {z : Nat} {b : List UInt8} (hL : LBytes G vL L) (hT : Bytes G vT T) (hC : Ints G vC C) (hz : z ≤ 255) (hb : Bytes G vb b) :
    FnOk Try.prog 4 [.agg #[vL, vT, vC], .int .u8 (z : Int), vb] G [] fun r _ H' => H' = [] ∧ r = .bool true := by
  obtain ⟨vl, hL1, hL2⟩ := id hL
  obtain ⟨AL, cL, rfl, hL3⟩ := id hL1
  obtain ⟨AT, cT, rfl, _⟩ := id hT
  obtain ⟨AC, cC, rfl, _⟩ := id hC
  obtain ⟨Ab, cb, rfl, _⟩ := id hb
  have hwl := wireF_len L T
  have hp := newF_t (n := ((z % 8 : Nat) : Int)) (by omega)
  have hPl : (splitF (wireF L T) (C.take 8)).length ≤ 9 := by rw [splitF_len, List.length_take]; omega
  have hPm : ∀ x ∈ (splitF (wireF L T) (C.take 8)), x.length ≤ 564 := fun x hx => Nat.le_trans (piecesF_mem_le _ _ _ x hx) hwl
  refine FnOk.of_T [(0, _), (1, _), (2, _)] Try.func4 rfl Try.ntmps4 (by simp) rfl fun w0 hs => ?_
  have hL0 := hL
  have hT0 := hT
  have hC0 := hC
  have hb0 := hb
  refine T_seq (T_region rfl ?_)
  refine O_s (S_box hs rfl (cs := [_, _, _]) rfl fun b3 _ hs => ?_)
  refine O_y hs (Y_assign rfl ?_)
  refine O_nil (T_sub [(1, _), (2, _), (3, _)] ⟨rfl, rfl, rfl, trivial⟩ ?_)
  refine T_seq (T_region rfl ?_)
  refine O_s (S_call (H1 := []) hs rfl Try.func11 rfl (by kernel_rfl) (sanity_ok) fun v1 G' H' _ hR hG24 hs => ?_)
  obtain ⟨rfl, rfl⟩ := hR
  replace hs : St _ _ [_] _ := hs
  replace hL := hL.mono hG24
  replace hT := hT.mono hG24
  replace hC := hC.mono hG24
  replace hb := hb.mono hG24
  refine O_y hs (Y_assign rfl ?_)
  refine O_nil (T_sub [(1, _), (2, _), (3, _), (7, _)] ⟨rfl, rfl, rfl, rfl, trivial⟩ ?_)
  refine T_seq (T_region rfl ?_)
  refine O_y hs (Y_move rfl ?_)
  refine O_y hs (Y_conv Try.underlying5 Try.underlying3 (c := (z : Int)) rfl (wrap64_eq (by omega)) ?_)
  refine O_y hs (Y_rem (c := ((z % 8 : Nat) : Int)) rfl rfl (by omega) (by omega) (by omega) ?_)
  refine O_s (S_call (H1 := []) hs rfl Try.func15 rfl (by kernel_rfl) (new_eq (⟨[], ((z % 8 : Nat) : Int), false⟩, 0) hp) fun v2 G' H' _ hR hG29 hs => ?_)
  obtain ⟨rfl, dv29, rfl, u29, rfl, hu29⟩ := hR
  replace hs : St _ _ [_] _ := hs
  replace hL := hL.mono hG29
  replace hT := hT.mono hG29
  replace hC := hC.mono hG29
  replace hb := hb.mono hG29
  obtain ⟨Au29, cu29, rfl, _⟩ := id hu29
  refine O_y hs (Y_move rfl ?_)
  refine O_y hs (Y_extract rfl rfl ?_)
  refine O_y hs (Y_extract rfl rfl ?_)
  refine O_s (S_alloc hs Try.zeroValue28 (cs := [_, _, _]) rfl fun b8 _ hs => ?_)
  refine O_n (S_stA hs Try.sizeOf28 rfl rfl (vs := [_, _, _]) rfl rfl (by simp) (cs' := [_, _, _]) rfl fun _ hs => ?_)
  refine O_y hs (Y_assign rfl ?_)
  refine O_nil (T_sub [(1, _), (2, _), (3, _), (7, _), (8, _)] ⟨rfl, rfl, rfl, rfl, rfl, trivial⟩ ?_)
  refine T_seq (T_region rfl ?_)
  refine O_y hs (Y_move rfl ?_)
  refine O_y hs (Y_conv Try.underlying5 Try.underlying3 (c := (z : Int)) rfl (wrap64_eq (by omega)) ?_)
  refine O_y hs (Y_rem (c := ((z % 8 : Nat) : Int)) rfl rfl (by omega) (by omega) (by omega) ?_)
  refine O_s (S_call (H1 := []) hs rfl Try.func16 rfl (by kernel_rfl) (newR_eq (⟨[], ((z % 8 : Nat) : Int), false⟩, 0) hp) fun v3 G' H' _ hR hG36 hs => ?_)
  obtain ⟨rfl, dv36, rfl, u36, rfl, hu36⟩ := hR
  replace hs : St _ _ [_, _] _ := hs
  replace hL := hL.mono hG36
  replace hT := hT.mono hG36
  replace hC := hC.mono hG36
  replace hb := hb.mono hG36
  replace hu29 := hu29.mono hG36
  obtain ⟨Au36, cu36, rfl, _⟩ := id hu36
  refine O_y hs (Y_move rfl ?_)
  refine O_y hs (Y_extract rfl rfl ?_)
  refine O_y hs (Y_extract rfl rfl ?_)
  refine O_s (S_alloc hs Try.zeroValue28 (cs := [_, _, _]) rfl fun b10 _ hs => ?_)
  refine O_n (S_stA hs Try.sizeOf28 rfl rfl (vs := [_, _, _]) rfl rfl (by simp) (cs' := [_, _, _]) rfl fun _ hs => ?_)
  refine O_y hs (Y_assign rfl ?_)
  refine O_nil (T_sub [(2, _), (3, _), (7, _), (8, _), (10, _)] ⟨rfl, rfl, rfl, rfl, rfl, trivial⟩ ?_)
  refine T_seq (T_drawS [0, 1, 2, 3, 4, 5] hs (by kernel_rfl) ?_)
  replace hs := hs.drew
  refine A_take 0 rfl (by kernel_rfl) rfl hs (Y_ldA 2 Try.isAgg26 Try.sizeOf26 rfl rfl (vs := [_, _, _]) rfl rfl ?_)
  refine A_take 2 rfl (by kernel_rfl) rfl hs (Y_ldA 2 Try.isAgg26 Try.sizeOf26 rfl rfl (vs := [_, _, _]) rfl rfl ?_)
  have hle := hs.le
  refine A_only 1 rfl (by kernel_rfl) rfl (S_call (H1 := []) hs rfl Try.func12 rfl (by kernel_rfl) (bytes_ok hL hT rfl) fun v4 G' H' _ hR hG40 hs => ?_)
  obtain ⟨rfl, hw⟩ := hR
  obtain ⟨A40, c40, rfl, _⟩ := id hw
  replace hs : St _ _ [_, _, _] _ := hs
  replace hL := hL.mono hG40
  replace hT := hT.mono hG40
  replace hC := hC.mono hG40
  replace hb := hb.mono hG40
  replace hu29 := hu29.mono hG40
  replace hu36 := hu36.mono hG40
  refine A_moreS hs hle hG40 (List.Sublist.refl _) ?_
  have hle := hs.le
  refine A_only 3 rfl (by kernel_rfl) rfl (S_call (H1 := []) hs rfl Try.func24 rfl (by kernel_rfl) (cuts_ok hC) fun v5 G' H' _ hR hG42 hs => ?_)
  obtain ⟨rfl, hcu42⟩ := hR
  replace hs : St _ _ [_, _, _] _ := hs
  replace hL := hL.mono hG42
  replace hT := hT.mono hG42
  replace hC := hC.mono hG42
  replace hb := hb.mono hG42
  replace hu29 := hu29.mono hG42
  replace hu36 := hu36.mono hG42
  replace hw := hw.mono hG42
  obtain ⟨Ac42, cc42, rfl, _⟩ := id hcu42
  refine A_moreS hs hle hG42 (List.Sublist.refl _) ?_
  have hle := hs.le
  refine A_only 4 rfl (by kernel_rfl) rfl (S_call (H1 := []) hs rfl Try.func25 rfl (by kernel_rfl) (splitR_ok hw hcu42 (by omega) (by rw [List.length_take]; omega)) fun v6 G' H' _ hR hG43 hs => ?_)
  obtain ⟨rfl, hsp⟩ := hR
  replace hs : St _ _ [_, _, _] _ := hs
  replace hL := hL.mono hG43
  replace hT := hT.mono hG43
  replace hC := hC.mono hG43
  replace hb := hb.mono hG43
  replace hu29 := hu29.mono hG43
  replace hu36 := hu36.mono hG43
  replace hw := hw.mono hG43
  replace hcu42 := hcu42.mono hG43
  obtain ⟨vs43, hsl43, _⟩ := id hsp
  obtain ⟨A43, c43, rfl, _⟩ := id hsl43
  refine A_moreS hs hle hG43 (List.Sublist.refl _) ?_
  refine A_take 5 rfl (by kernel_rfl) rfl hs (Y_assign rfl ?_)
  refine A_done (by kernel_rfl) (T_sub [(2, _), (7, _), (8, _), (10, _), (12, _)] ⟨rfl, rfl, rfl, rfl, rfl, trivial⟩ ?_)
  refine T_seq (T_seq (T_region rfl ?_))
  refine O_y hs (Y_assign rfl ?_)
  refine O_nil (T_sub [(2, _), (7, _), (8, _), (10, _), (12, _), (13, _)] ⟨rfl, rfl, rfl, rfl, rfl, rfl, trivial⟩ ?_)
  refine T_block (T_loop (fun m E w => ∃ (k : Nat) (d' : Dec) (A8 : Option Addr) (c8 : Nat) (A10 : Option Addr) (c10 : Nat) (G' : Ghost), k ≤ (splitF (wireF L T) (C.take 8)).length ∧ LBytes G' (.slice A43 (splitF (wireF L T) (C.take 8)).length c43) (splitF (wireF L T) (C.take 8)) ∧ Bytes G' (.slice A8 d'.rest.length c8) d'.rest ∧ Bytes G' (.slice A10 d'.rest.length c10) d'.rest ∧ m = (splitF (wireF L T) (C.take 8)).length - k ∧ E = ⟨[], [(2, (.slice Ab b.length cb)), (7, .bool true), (8, .pointer (some ⟨b8, 0, none⟩)), (10, .pointer (some ⟨b10, 0, none⟩)), (12, .slice A43 (splitF (wireF L T) (C.take 8)).length c43), (13, .int .i64 (k : Int))]⟩ ∧ St ⟨w0, G, feet []⟩ G' [.blk b10 28 [.slice A10 d'.rest.length c10, .int .i64 d'.credit, .bool d'.failed], .blk b8 28 [.slice A8 d'.rest.length c8, .int .i64 d'.credit, .bool d'.failed]] w) (L := [(2, _), (7, _), (8, _), (10, _), (12, _), (13, _)]) ⟨rfl, rfl, rfl, rfl, rfl, rfl, trivial⟩ (⟨0, ⟨[], ((z % 8 : Nat) : Int), false⟩, _, _, _, _, _, by omega, hsp, hu29, hu36, rfl, rfl, hs.weak hs.le (Ghost.le.refl _) (List.sublist_append_left [_, _] _)⟩) fun m E w hI => ?_)
  obtain ⟨k, d', A8, c8, A10, c10, G', hk, hsp, h8, h10, rfl, rfl, hs⟩ := hI
  have hb := hb0.mono hs.le
  refine T_seq (T_seq (T_region rfl ?_))
  refine O_y hs (Y_move rfl ?_)
  refine O_y hs (Y_move rfl ?_)
  refine O_y hs (Y_len Try.underlying22 rfl ?_)
  refine O_y hs (Y_cmpS rfl rfl rfl (fun h47 => ?_) (fun h47 => ?_))
  · -- h47: True
    dsimp only [cmpP] at h47
    refine O_nil (T_sub [(2, _), (7, _), (8, _), (10, _), (12, _), (13, _), (47, _)] ⟨rfl, rfl, rfl, rfl, rfl, rfl, rfl, trivial⟩ ?_)
    refine T_condT rfl (T_skip ?_)
    refine T_seq (T_block (T_seq (T_seq (T_region rfl ?_))))
    refine O_y hs (Y_move rfl ?_)
    refine O_y hs (Y_move rfl ?_)
    refine O_y hs (Y_len Try.underlying23 rfl ?_)
    refine O_y hs (Y_cmpS rfl rfl rfl (fun h53 => ?_) (fun h53 => ?_))
    · -- h53: True
      dsimp only [cmpP] at h53
      refine O_nil (T_sub [(2, _), (7, _), (8, _), (10, _), (12, _), (13, _), (53, _)] ⟨rfl, rfl, rfl, rfl, rfl, rfl, rfl, trivial⟩ ?_)
      refine T_joinK (fun E w => ∃ (d' : Dec) (A8 : Option Addr) (c8 : Nat) (A10 : Option Addr) (c10 : Nat) (G' : Ghost), LBytes G' (.slice A43 (splitF (wireF L T) (C.take 8)).length c43) (splitF (wireF L T) (C.take 8)) ∧ Bytes G' (.slice A8 d'.rest.length c8) d'.rest ∧ Bytes G' (.slice A10 d'.rest.length c10) d'.rest ∧ E = ⟨[], [(2, (.slice Ab b.length cb)), (7, .bool true), (8, .pointer (some ⟨b8, 0, none⟩)), (10, .pointer (some ⟨b10, 0, none⟩)), (12, .slice A43 (splitF (wireF L T) (C.take 8)).length c43), (13, .int .i64 (k : Int))]⟩ ∧ St ⟨w0, G, feet []⟩ G' [.blk b10 28 [.slice A10 d'.rest.length c10, .int .i64 d'.credit, .bool d'.failed], .blk b8 28 [.slice A8 d'.rest.length c8, .int .i64 d'.credit, .bool d'.failed]] w) ?_ ?_
      · -- join if53
        have hbk := b[k].toNat_lt
        obtain ⟨p, hg⟩ : ∃ p, grantF d' ((b[k].toNat % 4 : Nat) : Int) = p := ⟨_, rfl⟩
        refine T_condT rfl (T_seqJ (fun E w => ∃ (b14 : Nat) (Au62 : Option Addr) (cu62 : Nat) (G' : Ghost), LBytes G' (.slice A43 (splitF (wireF L T) (C.take 8)).length c43) (splitF (wireF L T) (C.take 8)) ∧ Bytes G' (.slice A8 d'.rest.length c8) d'.rest ∧ Bytes G' (.slice A10 d'.rest.length c10) d'.rest ∧ Bytes G' (.slice Au62 p.1.rest.length cu62) p.1.rest ∧ E = ⟨[], [(2, (.slice Ab b.length cb)), (7, .bool true), (8, .pointer (some ⟨b8, 0, none⟩)), (10, .pointer (some ⟨b10, 0, none⟩)), (12, .slice A43 (splitF (wireF L T) (C.take 8)).length c43), (13, .int .i64 (k : Int)), (14, .pointer (some ⟨b14, 0, none⟩)), (15, .int .i64 p.2)]⟩ ∧ St ⟨w0, G, feet []⟩ G' [.blk b14 28 [.slice Au62 p.1.rest.length cu62, .int .i64 p.1.credit, .bool p.1.failed], .blk b10 28 [.slice A10 d'.rest.length c10, .int .i64 d'.credit, .bool d'.failed], .blk b8 28 [.slice A8 d'.rest.length c8, .int .i64 d'.credit, .bool d'.failed]] w) ?_ ?_)
        · -- join 9
          refine T_drawS [0, 1, 2, 3, 4, 5, 6, 7, 8, 9, 11] hs (by kernel_rfl) ?_
          replace hs := hs.drew
          refine A_take 0 rfl (by kernel_rfl) rfl hs (Y_ldA 1 Try.isAgg28 Try.sizeOf28 rfl rfl (vs := [_, _, _]) rfl rfl ?_)
          refine A_take 1 rfl (by kernel_rfl) rfl hs (Y_move rfl ?_)
          refine A_take 2 rfl (by kernel_rfl) rfl hs (Y_move rfl ?_)
          refine A_take 3 rfl (by kernel_rfl) rfl hs (Y_idxB hb k Try.underlying23 Try.sizeOf5 rfl rfl rfl (by omega) fun p58 hp58 => ?_)
          refine A_take 4 rfl (by kernel_rfl) rfl hs (Y_ldG Try.isAgg5 rfl hp58 ?_)
          refine A_take 5 rfl (by kernel_rfl) rfl hs (Y_conv Try.underlying5 Try.underlying3 (c := (b[k].toNat : Int)) rfl (wrap64_byte _) ?_)
          refine A_take 6 rfl (by kernel_rfl) rfl hs (Y_rem (c := ((b[k].toNat % 4 : Nat) : Int)) rfl rfl (by omega) (by omega) (by omega) ?_)
          refine A_two 7 11 rfl rfl (by kernel_rfl) rfl rfl ?_ ?_
          · -- operation 7 comes up
            have hle := hs.le
            refine S_call (H1 := []) hs rfl Try.func17 rfl (by kernel_rfl) (grant_eq p ⟨_, rfl, h8⟩ hg) fun v7 G' H' _ hR hG62 hs => ?_
            obtain ⟨rfl, dv62, rfl, u62, rfl, hu62⟩ := hR
            replace hs : St _ _ [_, _] _ := hs
            replace hb := hb.mono hG62
            replace hsp := hsp.mono hG62
            replace h8 := h8.mono hG62
            replace h10 := h10.mono hG62
            obtain ⟨Au62, cu62, rfl, _⟩ := id hu62
            refine A_moreS hs hle hG62 (List.Sublist.refl _) ?_
            refine A_take 8 rfl (by kernel_rfl) rfl hs (Y_move rfl ?_)
            refine A_pure 10 rfl (by kernel_rfl) rfl (Y_extract rfl rfl ?_)
            refine A_take 9 rfl (by kernel_rfl) rfl hs (Y_extract rfl rfl ?_)
            have hle := hs.le
            refine A_only 11 rfl (by kernel_rfl) rfl (S_alloc hs Try.zeroValue28 (cs := [_, _, _]) rfl fun b14 _ hs => ?_)
            refine A_moreS hs hle (Ghost.le.refl _) (List.sublist_cons_self _ _) ?_
            refine A_tailN 12 rfl (by kernel_rfl) (by kernel_rfl) rfl (S_stA hs Try.sizeOf28 rfl rfl (vs := [_, _, _]) rfl rfl (by simp) (cs' := [_, _, _]) rfl fun _ hs => ?_)
            refine A_tail 13 rfl (by kernel_rfl) (by kernel_rfl) rfl (S_y hs rfl (Y_assign rfl ?_))
            exact A_done (by kernel_rfl) (⟨[(2, _), (7, _), (8, _), (10, _), (12, _), (13, _), (14, _), (15, _)], ⟨rfl, rfl, rfl, rfl, rfl, rfl, rfl, rfl, trivial⟩, ⟨b14, _, _, _, hsp, h8, h10, hu62, rfl, hs⟩⟩)
          · -- operation 11 comes up
            have hle := hs.le
            refine S_alloc hs Try.zeroValue28 (cs := [_, _, _]) rfl fun b14 _ hs => ?_
            refine A_moreS hs hle (Ghost.le.refl _) (List.sublist_cons_self _ _) ?_
            have hle := hs.le
            refine A_only 7 rfl (by kernel_rfl) rfl (S_call (H1 := []) hs rfl Try.func17 rfl (by kernel_rfl) (grant_eq p ⟨_, rfl, h8⟩ hg) fun v8 G' H' _ hR hG62 hs => ?_)
            obtain ⟨rfl, dv62, rfl, u62, rfl, hu62⟩ := hR
            replace hs : St _ _ [_, _, _] _ := hs
            replace hb := hb.mono hG62
            replace hsp := hsp.mono hG62
            replace h8 := h8.mono hG62
            replace h10 := h10.mono hG62
            obtain ⟨Au62, cu62, rfl, _⟩ := id hu62
            refine A_moreS hs hle hG62 (List.Sublist.refl _) ?_
            refine A_take 8 rfl (by kernel_rfl) rfl hs (Y_move rfl ?_)
            refine A_pure 10 rfl (by kernel_rfl) rfl (Y_extract rfl rfl ?_)
            refine A_take 9 rfl (by kernel_rfl) rfl hs (Y_extract rfl rfl ?_)
            refine A_tailN 12 rfl (by kernel_rfl) (by kernel_rfl) rfl (S_stA hs Try.sizeOf28 rfl rfl (vs := [_, _, _]) rfl rfl (by simp) (cs' := [_, _, _]) rfl fun _ hs => ?_)
            refine A_tail 13 rfl (by kernel_rfl) (by kernel_rfl) rfl (S_y hs rfl (Y_assign rfl ?_))
            exact A_done (by kernel_rfl) (⟨[(2, _), (7, _), (8, _), (10, _), (12, _), (13, _), (14, _), (15, _)], ⟨rfl, rfl, rfl, rfl, rfl, rfl, rfl, rfl, trivial⟩, ⟨b14, _, _, _, hsp, h8, h10, hu62, rfl, hs⟩⟩)
        clear hs
        intro E w hI
        obtain ⟨b14, Au62, cu62, G', hsp, h8, h10, hu62, rfl, hs⟩ := hI
        have hb := hb0.mono hs.le
        refine T_seqJ (fun E w => ∃ (b16 : Nat) (Au73 : Option Addr) (cu73 : Nat) (G' : Ghost), LBytes G' (.slice A43 (splitF (wireF L T) (C.take 8)).length c43) (splitF (wireF L T) (C.take 8)) ∧ Bytes G' (.slice Au62 p.1.rest.length cu62) p.1.rest ∧ Bytes G' (.slice Au73 p.1.rest.length cu73) p.1.rest ∧ E = ⟨[], [(2, (.slice Ab b.length cb)), (7, .bool true), (8, .pointer (some ⟨b8, 0, none⟩)), (10, .pointer (some ⟨b10, 0, none⟩)), (12, .slice A43 (splitF (wireF L T) (C.take 8)).length c43), (13, .int .i64 (k : Int)), (14, .pointer (some ⟨b14, 0, none⟩)), (15, .int .i64 p.2), (16, .pointer (some ⟨b16, 0, none⟩)), (17, .int .i64 p.2)]⟩ ∧ St ⟨w0, G, feet []⟩ G' [.blk b16 28 [.slice Au73 p.1.rest.length cu73, .int .i64 p.1.credit, .bool p.1.failed], .blk b14 28 [.slice Au62 p.1.rest.length cu62, .int .i64 p.1.credit, .bool p.1.failed], .blk b10 28 [.slice A10 d'.rest.length c10, .int .i64 d'.credit, .bool d'.failed], .blk b8 28 [.slice A8 d'.rest.length c8, .int .i64 d'.credit, .bool d'.failed]] w) ?_ ?_
        · -- join 10
          refine T_drawS [0, 1, 2, 3, 4, 5, 6, 7, 8, 9, 11] hs (by kernel_rfl) ?_
          replace hs := hs.drew
          refine A_take 0 rfl (by kernel_rfl) rfl hs (Y_ldA 1 Try.isAgg28 Try.sizeOf28 rfl rfl (vs := [_, _, _]) rfl rfl ?_)
          refine A_take 1 rfl (by kernel_rfl) rfl hs (Y_move rfl ?_)
          refine A_take 2 rfl (by kernel_rfl) rfl hs (Y_move rfl ?_)
          refine A_take 3 rfl (by kernel_rfl) rfl hs (Y_idxB hb k Try.underlying23 Try.sizeOf5 rfl rfl rfl (by omega) fun p69 hp69 => ?_)
          refine A_take 4 rfl (by kernel_rfl) rfl hs (Y_ldG Try.isAgg5 rfl hp69 ?_)
          refine A_take 5 rfl (by kernel_rfl) rfl hs (Y_conv Try.underlying5 Try.underlying3 (c := (b[k].toNat : Int)) rfl (wrap64_byte _) ?_)
          refine A_take 6 rfl (by kernel_rfl) rfl hs (Y_rem (c := ((b[k].toNat % 4 : Nat) : Int)) rfl rfl (by omega) (by omega) (by omega) ?_)
          refine A_two 7 11 rfl rfl (by kernel_rfl) rfl rfl ?_ ?_
          · -- operation 7 comes up
            have hle := hs.le
            refine S_call (H1 := []) hs rfl Try.func18 rfl (by kernel_rfl) (grantR_eq p ⟨_, rfl, h10⟩ hg) fun v9 G' H' _ hR hG73 hs => ?_
            obtain ⟨rfl, dv73, rfl, u73, rfl, hu73⟩ := hR
            replace hs : St _ _ [_, _, _] _ := hs
            replace hb := hb.mono hG73
            replace hsp := hsp.mono hG73
            replace h8 := h8.mono hG73
            replace h10 := h10.mono hG73
            replace hu62 := hu62.mono hG73
            obtain ⟨Au73, cu73, rfl, _⟩ := id hu73
            refine A_moreS hs hle hG73 (List.Sublist.refl _) ?_
            refine A_take 8 rfl (by kernel_rfl) rfl hs (Y_move rfl ?_)
            refine A_pure 10 rfl (by kernel_rfl) rfl (Y_extract rfl rfl ?_)
            refine A_take 9 rfl (by kernel_rfl) rfl hs (Y_extract rfl rfl ?_)
            have hle := hs.le
            refine A_only 11 rfl (by kernel_rfl) rfl (S_alloc hs Try.zeroValue28 (cs := [_, _, _]) rfl fun b16 _ hs => ?_)
            refine A_moreS hs hle (Ghost.le.refl _) (List.sublist_cons_self _ _) ?_
            refine A_tailN 12 rfl (by kernel_rfl) (by kernel_rfl) rfl (S_stA hs Try.sizeOf28 rfl rfl (vs := [_, _, _]) rfl rfl (by simp) (cs' := [_, _, _]) rfl fun _ hs => ?_)
            refine A_tail 13 rfl (by kernel_rfl) (by kernel_rfl) rfl (S_y hs rfl (Y_assign rfl ?_))
            exact A_done (by kernel_rfl) (⟨[(2, _), (7, _), (8, _), (10, _), (12, _), (13, _), (14, _), (15, _), (16, _), (17, _)], ⟨rfl, rfl, rfl, rfl, rfl, rfl, rfl, rfl, rfl, rfl, trivial⟩, ⟨b16, _, _, _, hsp, hu62, hu73, rfl, hs⟩⟩)
          · -- operation 11 comes up
            have hle := hs.le
            refine S_alloc hs Try.zeroValue28 (cs := [_, _, _]) rfl fun b16 _ hs => ?_
            refine A_moreS hs hle (Ghost.le.refl _) (List.sublist_cons_self _ _) ?_
            have hle := hs.le
            refine A_only 7 rfl (by kernel_rfl) rfl (S_call (H1 := []) hs rfl Try.func18 rfl (by kernel_rfl) (grantR_eq p ⟨_, rfl, h10⟩ hg) fun v10 G' H' _ hR hG73 hs => ?_)
            obtain ⟨rfl, dv73, rfl, u73, rfl, hu73⟩ := hR
            replace hs : St _ _ [_, _, _, _] _ := hs
            replace hb := hb.mono hG73
            replace hsp := hsp.mono hG73
            replace h8 := h8.mono hG73
            replace h10 := h10.mono hG73
            replace hu62 := hu62.mono hG73
            obtain ⟨Au73, cu73, rfl, _⟩ := id hu73
            refine A_moreS hs hle hG73 (List.Sublist.refl _) ?_
            refine A_take 8 rfl (by kernel_rfl) rfl hs (Y_move rfl ?_)
            refine A_pure 10 rfl (by kernel_rfl) rfl (Y_extract rfl rfl ?_)
            refine A_take 9 rfl (by kernel_rfl) rfl hs (Y_extract rfl rfl ?_)
            refine A_tailN 12 rfl (by kernel_rfl) (by kernel_rfl) rfl (S_stA hs Try.sizeOf28 rfl rfl (vs := [_, _, _]) rfl rfl (by simp) (cs' := [_, _, _]) rfl fun _ hs => ?_)
            refine A_tail 13 rfl (by kernel_rfl) (by kernel_rfl) rfl (S_y hs rfl (Y_assign rfl ?_))
            exact A_done (by kernel_rfl) (⟨[(2, _), (7, _), (8, _), (10, _), (12, _), (13, _), (14, _), (15, _), (16, _), (17, _)], ⟨rfl, rfl, rfl, rfl, rfl, rfl, rfl, rfl, rfl, rfl, trivial⟩, ⟨b16, _, _, _, hsp, hu62, hu73, rfl, hs⟩⟩)
        clear hs
        intro E w hI
        obtain ⟨b16, Au73, cu73, G', hsp, hu62, hu73, rfl, hs⟩ := hI
        have hb := hb0.mono hs.le
        refine T_seq (T_seq (T_region rfl ?_))
        refine O_y hs (Y_move rfl ?_)
        refine O_y hs (Y_move rfl ?_)
        refine O_y hs (Y_cmpF rfl rfl rfl (by simp [cmpP]) ?_)
        refine O_nil (T_sub [(2, _), (7, _), (8, _), (10, _), (12, _), (13, _), (14, _), (16, _), (78, _)] ⟨rfl, rfl, rfl, rfl, rfl, rfl, rfl, rfl, rfl, trivial⟩ ?_)
        refine T_condF rfl (T_skip ?_)
        refine T_seq (T_region rfl ?_)
        refine O_y hs (Y_ldA 1 Try.isAgg28 Try.sizeOf28 rfl rfl (vs := [_, _, _]) rfl rfl ?_)
        have hs := hs.front 3 rfl (H' := [_, _, _, _]) rfl
        refine O_n (S_stA hs Try.sizeOf28 rfl rfl (vs := [_, _, _]) rfl rfl (by simp) (cs' := [_, _, _]) rfl fun _ hs => ?_)
        refine O_nil (T_sub [(2, _), (7, _), (8, _), (10, _), (12, _), (13, _), (16, _)] ⟨rfl, rfl, rfl, rfl, rfl, rfl, rfl, trivial⟩ ?_)
        refine T_region rfl ?_
        refine O_y hs (Y_ldA 1 Try.isAgg28 Try.sizeOf28 rfl rfl (vs := [_, _, _]) rfl rfl ?_)
        have hs := hs.front 3 rfl (H' := [_, _, _, _]) rfl
        refine O_n (S_stA hs Try.sizeOf28 rfl rfl (vs := [_, _, _]) rfl rfl (by simp) (cs' := [_, _, _]) rfl fun _ hs => ?_)
        exact O_nil (⟨[(2, _), (7, _), (8, _), (10, _), (12, _), (13, _)], ⟨rfl, rfl, rfl, rfl, rfl, rfl, trivial⟩, ⟨p.1, _, _, _, _, _, hsp, hu62, hu73, rfl, hs.weak hs.le (Ghost.le.refl _) (List.sublist_append_left [_, _] _)⟩⟩)
      clear hs
      intro D M L w hL hI
      obtain ⟨d', A8, c8, A10, c10, G', hsp, h8, h10, hE, hs⟩ := hI
      cases hE
      refine T_sub _ hL ?_
      have hb := hb0.mono hs.le
      have hkl := hPm _ (List.getElem_mem (show k < (splitF (wireF L T) (C.take 8)).length by omega))
      obtain ⟨q, hq⟩ : ∃ q, feedF d' (splitF (wireF L T) (C.take 8))[k] = q := ⟨_, rfl⟩
      have hql : q.2.1.length ≤ 10000 := by have := feedF_msgs_le d' (splitF (wireF L T) (C.take 8))[k]; rw [hq] at this; omega
      refine T_seqJ (fun E w => ∃ (b18 : Nat) (Au87 : Option Addr) (cu87 : Nat) (A87 : Option Addr) (c87 : Nat) (G' : Ghost), LBytes G' (.slice A43 (splitF (wireF L T) (C.take 8)).length c43) (splitF (wireF L T) (C.take 8)) ∧ Bytes G' (.slice A10 d'.rest.length c10) d'.rest ∧ Bytes G' (.slice Au87 q.1.rest.length cu87) q.1.rest ∧ LBytes G' (.slice A87 q.2.1.length c87) q.2.1 ∧ E = ⟨[], [(2, (.slice Ab b.length cb)), (7, .bool true), (8, .pointer (some ⟨b8, 0, none⟩)), (10, .pointer (some ⟨b10, 0, none⟩)), (12, .slice A43 (splitF (wireF L T) (C.take 8)).length c43), (13, .int .i64 (k : Int)), (18, .pointer (some ⟨b18, 0, none⟩)), (19, .slice A87 q.2.1.length c87), (20, .int .i64 q.2.2)]⟩ ∧ St ⟨w0, G, feet []⟩ G' [.blk b18 28 [.slice Au87 q.1.rest.length cu87, .int .i64 q.1.credit, .bool q.1.failed], .blk b10 28 [.slice A10 d'.rest.length c10, .int .i64 d'.credit, .bool d'.failed], .blk b8 28 [.slice A8 d'.rest.length c8, .int .i64 d'.credit, .bool d'.failed]] w) ?_ ?_
      · -- join 15
        refine T_drawS [0, 1, 2, 3, 4, 5, 6, 7, 10] hs (by kernel_rfl) ?_
        replace hs := hs.drew
        refine A_take 0 rfl (by kernel_rfl) rfl hs (Y_ldA 1 Try.isAgg28 Try.sizeOf28 rfl rfl (vs := [_, _, _]) rfl rfl ?_)
        refine A_take 1 rfl (by kernel_rfl) rfl hs (Y_move rfl ?_)
        refine A_take 2 rfl (by kernel_rfl) rfl hs (Y_move rfl ?_)
        refine A_take 3 rfl (by kernel_rfl) rfl hs (Y_idxL hsp k Try.underlying22 Try.sizeOf23 rfl rfl rfl (by omega) fun p85 u85 hp85 hu85 => ?_)
        obtain ⟨A85, c85, rfl, _⟩ := id hu85
        refine A_take 4 rfl (by kernel_rfl) rfl hs (Y_ldG Try.isAgg23 rfl hp85 ?_)
        refine A_two 5 10 rfl rfl (by kernel_rfl) rfl rfl ?_ ?_
        · -- operation 5 comes up
          have hle := hs.le
          refine S_call (H1 := []) hs rfl Try.func13 rfl (by kernel_rfl) (feed_eq q ⟨_, rfl, h8⟩ hu85 (by omega) hq) fun v11 G' H' _ hR hG87 hs => ?_
          obtain ⟨rfl, dv87, mv87, rfl, ⟨u87, rfl, hu87⟩, hm87⟩ := hR
          replace hs : St _ _ [_, _] _ := hs
          replace hb := hb.mono hG87
          replace hsp := hsp.mono hG87
          replace h8 := h8.mono hG87
          replace h10 := h10.mono hG87
          replace hu85 := hu85.mono hG87
          obtain ⟨Au87, cu87, rfl, _⟩ := id hu87
          obtain ⟨vs87, hsl87, hvs87⟩ := id hm87
          obtain ⟨A87, c87, rfl, _⟩ := id hsl87
          refine A_moreS hs hle hG87 (List.Sublist.refl _) ?_
          refine A_take 6 rfl (by kernel_rfl) rfl hs (Y_move rfl ?_)
          refine A_pure 8 rfl (by kernel_rfl) rfl (Y_extract rfl rfl ?_)
          refine A_pure 9 rfl (by kernel_rfl) rfl (Y_extract rfl rfl ?_)
          refine A_take 7 rfl (by kernel_rfl) rfl hs (Y_extract rfl rfl ?_)
          have hle := hs.le
          refine A_only 10 rfl (by kernel_rfl) rfl (S_alloc hs Try.zeroValue28 (cs := [_, _, _]) rfl fun b18 _ hs => ?_)
          refine A_moreS hs hle (Ghost.le.refl _) (List.sublist_cons_self _ _) ?_
          refine A_tailN 11 rfl (by kernel_rfl) (by kernel_rfl) rfl (S_stA hs Try.sizeOf28 rfl rfl (vs := [_, _, _]) rfl rfl (by simp) (cs' := [_, _, _]) rfl fun _ hs => ?_)
          refine A_tail 12 rfl (by kernel_rfl) (by kernel_rfl) rfl (S_y hs rfl (Y_assign rfl ?_))
          refine A_tail 13 rfl (by kernel_rfl) (by kernel_rfl) rfl (S_y hs rfl (Y_assign rfl ?_))
          exact A_done (by kernel_rfl) (⟨[(2, _), (7, _), (8, _), (10, _), (12, _), (13, _), (18, _), (19, _), (20, _)], ⟨rfl, rfl, rfl, rfl, rfl, rfl, rfl, rfl, rfl, trivial⟩, ⟨b18, _, _, _, _, _, hsp, h10, hu87, hm87, rfl, hs⟩⟩)
        · -- operation 10 comes up
          have hle := hs.le
          refine S_alloc hs Try.zeroValue28 (cs := [_, _, _]) rfl fun b18 _ hs => ?_
          refine A_moreS hs hle (Ghost.le.refl _) (List.sublist_cons_self _ _) ?_
          have hle := hs.le
          refine A_only 5 rfl (by kernel_rfl) rfl (S_call (H1 := []) hs rfl Try.func13 rfl (by kernel_rfl) (feed_eq q ⟨_, rfl, h8⟩ hu85 (by omega) hq) fun v12 G' H' _ hR hG87 hs => ?_)
          obtain ⟨rfl, dv87, mv87, rfl, ⟨u87, rfl, hu87⟩, hm87⟩ := hR
          replace hs : St _ _ [_, _, _] _ := hs
          replace hb := hb.mono hG87
          replace hsp := hsp.mono hG87
          replace h8 := h8.mono hG87
          replace h10 := h10.mono hG87
          replace hu85 := hu85.mono hG87
          obtain ⟨Au87, cu87, rfl, _⟩ := id hu87
          obtain ⟨vs87, hsl87, hvs87⟩ := id hm87
          obtain ⟨A87, c87, rfl, _⟩ := id hsl87
          refine A_moreS hs hle hG87 (List.Sublist.refl _) ?_
          refine A_take 6 rfl (by kernel_rfl) rfl hs (Y_move rfl ?_)
          refine A_pure 8 rfl (by kernel_rfl) rfl (Y_extract rfl rfl ?_)
          refine A_pure 9 rfl (by kernel_rfl) rfl (Y_extract rfl rfl ?_)
          refine A_take 7 rfl (by kernel_rfl) rfl hs (Y_extract rfl rfl ?_)
          refine A_tailN 11 rfl (by kernel_rfl) (by kernel_rfl) rfl (S_stA hs Try.sizeOf28 rfl rfl (vs := [_, _, _]) rfl rfl (by simp) (cs' := [_, _, _]) rfl fun _ hs => ?_)
          refine A_tail 12 rfl (by kernel_rfl) (by kernel_rfl) rfl (S_y hs rfl (Y_assign rfl ?_))
          refine A_tail 13 rfl (by kernel_rfl) (by kernel_rfl) rfl (S_y hs rfl (Y_assign rfl ?_))
          exact A_done (by kernel_rfl) (⟨[(2, _), (7, _), (8, _), (10, _), (12, _), (13, _), (18, _), (19, _), (20, _)], ⟨rfl, rfl, rfl, rfl, rfl, rfl, rfl, rfl, rfl, trivial⟩, ⟨b18, _, _, _, _, _, hsp, h10, hu87, hm87, rfl, hs⟩⟩)
      clear hs
      intro E w hI
      obtain ⟨b18, Au87, cu87, A87, c87, G', hsp, h10, hu87, hm87, rfl, hs⟩ := hI
      have hb := hb0.mono hs.le
      refine T_seqJ (fun E w => ∃ (b21 : Nat) (Au97 : Option Addr) (cu97 : Nat) (A97 : Option Addr) (c97 : Nat) (G' : Ghost), LBytes G' (.slice A43 (splitF (wireF L T) (C.take 8)).length c43) (splitF (wireF L T) (C.take 8)) ∧ Bytes G' (.slice Au87 q.1.rest.length cu87) q.1.rest ∧ LBytes G' (.slice A87 q.2.1.length c87) q.2.1 ∧ Bytes G' (.slice Au97 q.1.rest.length cu97) q.1.rest ∧ LBytes G' (.slice A97 q.2.1.length c97) q.2.1 ∧ E = ⟨[], [(2, (.slice Ab b.length cb)), (7, .bool true), (8, .pointer (some ⟨b8, 0, none⟩)), (10, .pointer (some ⟨b10, 0, none⟩)), (12, .slice A43 (splitF (wireF L T) (C.take 8)).length c43), (13, .int .i64 (k : Int)), (18, .pointer (some ⟨b18, 0, none⟩)), (19, .slice A87 q.2.1.length c87), (20, .int .i64 q.2.2), (21, .pointer (some ⟨b21, 0, none⟩)), (22, .slice A97 q.2.1.length c97), (23, .int .i64 q.2.2)]⟩ ∧ St ⟨w0, G, feet []⟩ G' [.blk b21 28 [.slice Au97 q.1.rest.length cu97, .int .i64 q.1.credit, .bool q.1.failed], .blk b18 28 [.slice Au87 q.1.rest.length cu87, .int .i64 q.1.credit, .bool q.1.failed], .blk b10 28 [.slice A10 d'.rest.length c10, .int .i64 d'.credit, .bool d'.failed], .blk b8 28 [.slice A8 d'.rest.length c8, .int .i64 d'.credit, .bool d'.failed]] w) ?_ ?_
      · -- join 16
        refine T_drawS [0, 1, 2, 3, 4, 5, 6, 7, 10] hs (by kernel_rfl) ?_
        replace hs := hs.drew
        refine A_take 0 rfl (by kernel_rfl) rfl hs (Y_ldA 1 Try.isAgg28 Try.sizeOf28 rfl rfl (vs := [_, _, _]) rfl rfl ?_)
        refine A_take 1 rfl (by kernel_rfl) rfl hs (Y_move rfl ?_)
        refine A_take 2 rfl (by kernel_rfl) rfl hs (Y_move rfl ?_)
        refine A_take 3 rfl (by kernel_rfl) rfl hs (Y_idxL hsp k Try.underlying22 Try.sizeOf23 rfl rfl rfl (by omega) fun p95 u95 hp95 hu95 => ?_)
        obtain ⟨A95, c95, rfl, _⟩ := id hu95
        refine A_take 4 rfl (by kernel_rfl) rfl hs (Y_ldG Try.isAgg23 rfl hp95 ?_)
        refine A_two 5 10 rfl rfl (by kernel_rfl) rfl rfl ?_ ?_
        · -- operation 5 comes up
          have hle := hs.le
          refine S_call (H1 := []) hs rfl Try.func14 rfl (by kernel_rfl) (feedR_eq q ⟨_, rfl, h10⟩ hu95 (by omega) hq) fun v13 G' H' _ hR hG97 hs => ?_
          obtain ⟨rfl, dv97, mv97, rfl, ⟨u97, rfl, hu97⟩, hm97⟩ := hR
          replace hs : St _ _ [_, _, _] _ := hs
          replace hb := hb.mono hG97
          replace hsp := hsp.mono hG97
          replace h10 := h10.mono hG97
          replace hu87 := hu87.mono hG97
          replace hm87 := hm87.mono hG97
          replace hu95 := hu95.mono hG97
          obtain ⟨Au97, cu97, rfl, _⟩ := id hu97
          obtain ⟨vs97, hsl97, hvs97⟩ := id hm97
          obtain ⟨A97, c97, rfl, _⟩ := id hsl97
          refine A_moreS hs hle hG97 (List.Sublist.refl _) ?_
          refine A_take 6 rfl (by kernel_rfl) rfl hs (Y_move rfl ?_)
          refine A_pure 8 rfl (by kernel_rfl) rfl (Y_extract rfl rfl ?_)
          refine A_pure 9 rfl (by kernel_rfl) rfl (Y_extract rfl rfl ?_)
          refine A_take 7 rfl (by kernel_rfl) rfl hs (Y_extract rfl rfl ?_)
          have hle := hs.le
          refine A_only 10 rfl (by kernel_rfl) rfl (S_alloc hs Try.zeroValue28 (cs := [_, _, _]) rfl fun b21 _ hs => ?_)
          refine A_moreS hs hle (Ghost.le.refl _) (List.sublist_cons_self _ _) ?_
          refine A_tailN 11 rfl (by kernel_rfl) (by kernel_rfl) rfl (S_stA hs Try.sizeOf28 rfl rfl (vs := [_, _, _]) rfl rfl (by simp) (cs' := [_, _, _]) rfl fun _ hs => ?_)
          refine A_tail 12 rfl (by kernel_rfl) (by kernel_rfl) rfl (S_y hs rfl (Y_assign rfl ?_))
          refine A_tail 13 rfl (by kernel_rfl) (by kernel_rfl) rfl (S_y hs rfl (Y_assign rfl ?_))
          exact A_done (by kernel_rfl) (⟨[(2, _), (7, _), (8, _), (10, _), (12, _), (13, _), (18, _), (19, _), (20, _), (21, _), (22, _), (23, _)], ⟨rfl, rfl, rfl, rfl, rfl, rfl, rfl, rfl, rfl, rfl, rfl, rfl, trivial⟩, ⟨b21, _, _, _, _, _, hsp, hu87, hm87, hu97, hm97, rfl, hs⟩⟩)
        · -- operation 10 comes up
          have hle := hs.le
          refine S_alloc hs Try.zeroValue28 (cs := [_, _, _]) rfl fun b21 _ hs => ?_
          refine A_moreS hs hle (Ghost.le.refl _) (List.sublist_cons_self _ _) ?_
          have hle := hs.le
          refine A_only 5 rfl (by kernel_rfl) rfl (S_call (H1 := []) hs rfl Try.func14 rfl (by kernel_rfl) (feedR_eq q ⟨_, rfl, h10⟩ hu95 (by omega) hq) fun v14 G' H' _ hR hG97 hs => ?_)
          obtain ⟨rfl, dv97, mv97, rfl, ⟨u97, rfl, hu97⟩, hm97⟩ := hR
          replace hs : St _ _ [_, _, _, _] _ := hs
          replace hb := hb.mono hG97
          replace hsp := hsp.mono hG97
          replace h10 := h10.mono hG97
          replace hu87 := hu87.mono hG97
          replace hm87 := hm87.mono hG97
          replace hu95 := hu95.mono hG97
          obtain ⟨Au97, cu97, rfl, _⟩ := id hu97
          obtain ⟨vs97, hsl97, hvs97⟩ := id hm97
          obtain ⟨A97, c97, rfl, _⟩ := id hsl97
          refine A_moreS hs hle hG97 (List.Sublist.refl _) ?_
          refine A_take 6 rfl (by kernel_rfl) rfl hs (Y_move rfl ?_)
          refine A_pure 8 rfl (by kernel_rfl) rfl (Y_extract rfl rfl ?_)
          refine A_pure 9 rfl (by kernel_rfl) rfl (Y_extract rfl rfl ?_)
          refine A_take 7 rfl (by kernel_rfl) rfl hs (Y_extract rfl rfl ?_)
          refine A_tailN 11 rfl (by kernel_rfl) (by kernel_rfl) rfl (S_stA hs Try.sizeOf28 rfl rfl (vs := [_, _, _]) rfl rfl (by simp) (cs' := [_, _, _]) rfl fun _ hs => ?_)
          refine A_tail 12 rfl (by kernel_rfl) (by kernel_rfl) rfl (S_y hs rfl (Y_assign rfl ?_))
          refine A_tail 13 rfl (by kernel_rfl) (by kernel_rfl) rfl (S_y hs rfl (Y_assign rfl ?_))
          exact A_done (by kernel_rfl) (⟨[(2, _), (7, _), (8, _), (10, _), (12, _), (13, _), (18, _), (19, _), (20, _), (21, _), (22, _), (23, _)], ⟨rfl, rfl, rfl, rfl, rfl, rfl, rfl, rfl, rfl, rfl, rfl, rfl, trivial⟩, ⟨b21, _, _, _, _, _, hsp, hu87, hm87, hu97, hm97, rfl, hs⟩⟩)
      clear hs
      intro E w hI
      obtain ⟨b21, Au97, cu97, A97, c97, G', hsp, hu87, hm87, hu97, hm97, rfl, hs⟩ := hI
      have hb := hb0.mono hs.le
      refine T_seq (T_seq (T_region rfl ?_))
      refine O_y hs (Y_ldA 1 Try.isAgg28 Try.sizeOf28 rfl rfl (vs := [_, _, _]) rfl rfl ?_)
      refine O_y hs (Y_ldA 0 Try.isAgg28 Try.sizeOf28 rfl rfl (vs := [_, _, _]) rfl rfl ?_)
      refine O_s (S_call (H1 := []) hs rfl Try.func21 rfl (by kernel_rfl) (same_eq (d := q.1) (e := q.1) ⟨_, rfl, hu87⟩ ⟨_, rfl, hu97⟩ true (by simp)) fun v15 G' H' _ hR hG103 hs => ?_)
      obtain ⟨rfl, rfl⟩ := hR
      replace hs : St _ _ [_, _, _, _] _ := hs
      replace hb := hb.mono hG103
      replace hsp := hsp.mono hG103
      replace hu87 := hu87.mono hG103
      replace hm87 := hm87.mono hG103
      replace hu97 := hu97.mono hG103
      replace hm97 := hm97.mono hG103
      refine O_y hs (Y_not rfl ?_)
      refine O_y hs (Y_move rfl ?_)
      refine O_yy 105 hs rfl rfl (Y_move rfl ?_)
      refine O_yy 105 hs rfl rfl (Y_move rfl ?_)
      refine O_yes 105 rfl rfl (S_call (H1 := []) hs rfl Try.func22 rfl (by kernel_rfl) (sameBytes_eq hm87 hm97 (by omega) true (by simp)) fun v16 G' H' _ hR hG108 hs => ?_)
      obtain ⟨rfl, rfl⟩ := hR
      replace hs : St _ _ [_, _, _, _] _ := hs
      replace hb := hb.mono hG108
      replace hsp := hsp.mono hG108
      replace hu87 := hu87.mono hG108
      replace hm87 := hm87.mono hG108
      replace hu97 := hu97.mono hG108
      replace hm97 := hm97.mono hG108
      refine O_yy 105 hs rfl rfl (Y_not rfl ?_)
      refine O_y hs (Y_pickF rfl rfl ?_)
      refine O_y hs (Y_move rfl ?_)
      refine O_yy 111 hs rfl rfl (Y_move rfl ?_)
      refine O_yy 111 hs rfl rfl (Y_move rfl ?_)
      refine O_yy 111 hs rfl rfl (Y_cmpF rfl rfl rfl (by simp [cmpP]) ?_)
      refine O_y hs (Y_pickF rfl rfl ?_)
      refine O_nil (T_sub [(2, _), (7, _), (8, _), (10, _), (12, _), (13, _), (18, _), (21, _), (115, _)] ⟨rfl, rfl, rfl, rfl, rfl, rfl, rfl, rfl, rfl, trivial⟩ ?_)
      refine T_condF rfl (T_skip ?_)
      refine T_seq (T_region rfl ?_)
      refine O_y hs (Y_ldA 1 Try.isAgg28 Try.sizeOf28 rfl rfl (vs := [_, _, _]) rfl rfl ?_)
      have hs := hs.front 3 rfl (H' := [_, _, _, _]) rfl
      refine O_n (S_stA hs Try.sizeOf28 rfl rfl (vs := [_, _, _]) rfl rfl (by simp) (cs' := [_, _, _]) rfl fun _ hs => ?_)
      refine O_nil (T_sub [(2, _), (7, _), (8, _), (10, _), (12, _), (13, _), (21, _)] ⟨rfl, rfl, rfl, rfl, rfl, rfl, rfl, trivial⟩ ?_)
      refine T_region rfl ?_
      refine O_y hs (Y_ldA 1 Try.isAgg28 Try.sizeOf28 rfl rfl (vs := [_, _, _]) rfl rfl ?_)
      have hs := hs.front 3 rfl (H' := [_, _, _, _]) rfl
      refine O_n (S_stA hs Try.sizeOf28 rfl rfl (vs := [_, _, _]) rfl rfl (by simp) (cs' := [_, _, _]) rfl fun _ hs => ?_)
      refine O_nil (T_sub [(2, _), (7, _), (8, _), (10, _), (12, _), (13, _)] ⟨rfl, rfl, rfl, rfl, rfl, rfl, trivial⟩ ?_)
      refine T_region rfl ?_
      refine O_y hs (Y_move rfl ?_)
      refine O_y hs (Y_add (c := ((k + 1 : Nat) : Int)) rfl rfl (by omega) (by omega) ?_)
      refine O_y hs (Y_assign rfl ?_)
      refine O_nil ⟨_, ?_, [(2, _), (7, _), (8, _), (10, _), (12, _), (13, _)], ⟨rfl, rfl, rfl, rfl, rfl, rfl, trivial⟩, ⟨k + 1, q.1, _, _, _, _, _, by omega, hsp, hu87, hu97, rfl, rfl, hs.weak hs.le (Ghost.le.refl _) (List.sublist_append_left [_, _] _)⟩⟩
      omega
    · -- h53: False
      dsimp only [cmpP] at h53
      refine O_nil (T_sub [(2, _), (7, _), (8, _), (10, _), (12, _), (13, _), (53, _)] ⟨rfl, rfl, rfl, rfl, rfl, rfl, rfl, trivial⟩ ?_)
      refine T_joinK (fun E w => ∃ (d' : Dec) (A8 : Option Addr) (c8 : Nat) (A10 : Option Addr) (c10 : Nat) (G' : Ghost), LBytes G' (.slice A43 (splitF (wireF L T) (C.take 8)).length c43) (splitF (wireF L T) (C.take 8)) ∧ Bytes G' (.slice A8 d'.rest.length c8) d'.rest ∧ Bytes G' (.slice A10 d'.rest.length c10) d'.rest ∧ E = ⟨[], [(2, (.slice Ab b.length cb)), (7, .bool true), (8, .pointer (some ⟨b8, 0, none⟩)), (10, .pointer (some ⟨b10, 0, none⟩)), (12, .slice A43 (splitF (wireF L T) (C.take 8)).length c43), (13, .int .i64 (k : Int))]⟩ ∧ St ⟨w0, G, feet []⟩ G' [.blk b10 28 [.slice A10 d'.rest.length c10, .int .i64 d'.credit, .bool d'.failed], .blk b8 28 [.slice A8 d'.rest.length c8, .int .i64 d'.credit, .bool d'.failed]] w) ?_ ?_
      · -- join if53
        refine T_condF rfl (T_skip ?_)
        exact ⟨[(2, _), (7, _), (8, _), (10, _), (12, _), (13, _)], ⟨rfl, rfl, rfl, rfl, rfl, rfl, trivial⟩, ⟨d', _, _, _, _, _, hsp, h8, h10, rfl, hs⟩⟩
      clear hs
      intro D M L w hL hI
      obtain ⟨d', A8, c8, A10, c10, G', hsp, h8, h10, hE, hs⟩ := hI
      cases hE
      refine T_sub _ hL ?_
      have hb := hb0.mono hs.le
      have hkl := hPm _ (List.getElem_mem (show k < (splitF (wireF L T) (C.take 8)).length by omega))
      obtain ⟨q, hq⟩ : ∃ q, feedF d' (splitF (wireF L T) (C.take 8))[k] = q := ⟨_, rfl⟩
      have hql : q.2.1.length ≤ 10000 := by have := feedF_msgs_le d' (splitF (wireF L T) (C.take 8))[k]; rw [hq] at this; omega
      refine T_seqJ (fun E w => ∃ (b18 : Nat) (Au87 : Option Addr) (cu87 : Nat) (A87 : Option Addr) (c87 : Nat) (G' : Ghost), LBytes G' (.slice A43 (splitF (wireF L T) (C.take 8)).length c43) (splitF (wireF L T) (C.take 8)) ∧ Bytes G' (.slice A10 d'.rest.length c10) d'.rest ∧ Bytes G' (.slice Au87 q.1.rest.length cu87) q.1.rest ∧ LBytes G' (.slice A87 q.2.1.length c87) q.2.1 ∧ E = ⟨[], [(2, (.slice Ab b.length cb)), (7, .bool true), (8, .pointer (some ⟨b8, 0, none⟩)), (10, .pointer (some ⟨b10, 0, none⟩)), (12, .slice A43 (splitF (wireF L T) (C.take 8)).length c43), (13, .int .i64 (k : Int)), (18, .pointer (some ⟨b18, 0, none⟩)), (19, .slice A87 q.2.1.length c87), (20, .int .i64 q.2.2)]⟩ ∧ St ⟨w0, G, feet []⟩ G' [.blk b18 28 [.slice Au87 q.1.rest.length cu87, .int .i64 q.1.credit, .bool q.1.failed], .blk b10 28 [.slice A10 d'.rest.length c10, .int .i64 d'.credit, .bool d'.failed], .blk b8 28 [.slice A8 d'.rest.length c8, .int .i64 d'.credit, .bool d'.failed]] w) ?_ ?_
      · -- join 15
        refine T_drawS [0, 1, 2, 3, 4, 5, 6, 7, 10] hs (by kernel_rfl) ?_
        replace hs := hs.drew
        refine A_take 0 rfl (by kernel_rfl) rfl hs (Y_ldA 1 Try.isAgg28 Try.sizeOf28 rfl rfl (vs := [_, _, _]) rfl rfl ?_)
        refine A_take 1 rfl (by kernel_rfl) rfl hs (Y_move rfl ?_)
        refine A_take 2 rfl (by kernel_rfl) rfl hs (Y_move rfl ?_)
        refine A_take 3 rfl (by kernel_rfl) rfl hs (Y_idxL hsp k Try.underlying22 Try.sizeOf23 rfl rfl rfl (by omega) fun p85 u85 hp85 hu85 => ?_)
        obtain ⟨A85, c85, rfl, _⟩ := id hu85
        refine A_take 4 rfl (by kernel_rfl) rfl hs (Y_ldG Try.isAgg23 rfl hp85 ?_)
        refine A_two 5 10 rfl rfl (by kernel_rfl) rfl rfl ?_ ?_
        · -- operation 5 comes up
          have hle := hs.le
          refine S_call (H1 := []) hs rfl Try.func13 rfl (by kernel_rfl) (feed_eq q ⟨_, rfl, h8⟩ hu85 (by omega) hq) fun v17 G' H' _ hR hG87 hs => ?_
          obtain ⟨rfl, dv87, mv87, rfl, ⟨u87, rfl, hu87⟩, hm87⟩ := hR
          replace hs : St _ _ [_, _] _ := hs
          replace hb := hb.mono hG87
          replace hsp := hsp.mono hG87
          replace h8 := h8.mono hG87
          replace h10 := h10.mono hG87
          replace hu85 := hu85.mono hG87
          obtain ⟨Au87, cu87, rfl, _⟩ := id hu87
          obtain ⟨vs87, hsl87, hvs87⟩ := id hm87
          obtain ⟨A87, c87, rfl, _⟩ := id hsl87
          refine A_moreS hs hle hG87 (List.Sublist.refl _) ?_
          refine A_take 6 rfl (by kernel_rfl) rfl hs (Y_move rfl ?_)
          refine A_pure 8 rfl (by kernel_rfl) rfl (Y_extract rfl rfl ?_)
          refine A_pure 9 rfl (by kernel_rfl) rfl (Y_extract rfl rfl ?_)
          refine A_take 7 rfl (by kernel_rfl) rfl hs (Y_extract rfl rfl ?_)
          have hle := hs.le
          refine A_only 10 rfl (by kernel_rfl) rfl (S_alloc hs Try.zeroValue28 (cs := [_, _, _]) rfl fun b18 _ hs => ?_)
          refine A_moreS hs hle (Ghost.le.refl _) (List.sublist_cons_self _ _) ?_
          refine A_tailN 11 rfl (by kernel_rfl) (by kernel_rfl) rfl (S_stA hs Try.sizeOf28 rfl rfl (vs := [_, _, _]) rfl rfl (by simp) (cs' := [_, _, _]) rfl fun _ hs => ?_)
          refine A_tail 12 rfl (by kernel_rfl) (by kernel_rfl) rfl (S_y hs rfl (Y_assign rfl ?_))
          refine A_tail 13 rfl (by kernel_rfl) (by kernel_rfl) rfl (S_y hs rfl (Y_assign rfl ?_))
          exact A_done (by kernel_rfl) (⟨[(2, _), (7, _), (8, _), (10, _), (12, _), (13, _), (18, _), (19, _), (20, _)], ⟨rfl, rfl, rfl, rfl, rfl, rfl, rfl, rfl, rfl, trivial⟩, ⟨b18, _, _, _, _, _, hsp, h10, hu87, hm87, rfl, hs⟩⟩)
        · -- operation 10 comes up
          have hle := hs.le
          refine S_alloc hs Try.zeroValue28 (cs := [_, _, _]) rfl fun b18 _ hs => ?_
          refine A_moreS hs hle (Ghost.le.refl _) (List.sublist_cons_self _ _) ?_
          have hle := hs.le
          refine A_only 5 rfl (by kernel_rfl) rfl (S_call (H1 := []) hs rfl Try.func13 rfl (by kernel_rfl) (feed_eq q ⟨_, rfl, h8⟩ hu85 (by omega) hq) fun v18 G' H' _ hR hG87 hs => ?_)
          obtain ⟨rfl, dv87, mv87, rfl, ⟨u87, rfl, hu87⟩, hm87⟩ := hR
          replace hs : St _ _ [_, _, _] _ := hs
          replace hb := hb.mono hG87
          replace hsp := hsp.mono hG87
          replace h8 := h8.mono hG87
          replace h10 := h10.mono hG87
          replace hu85 := hu85.mono hG87
          obtain ⟨Au87, cu87, rfl, _⟩ := id hu87
          obtain ⟨vs87, hsl87, hvs87⟩ := id hm87
          obtain ⟨A87, c87, rfl, _⟩ := id hsl87
          refine A_moreS hs hle hG87 (List.Sublist.refl _) ?_
          refine A_take 6 rfl (by kernel_rfl) rfl hs (Y_move rfl ?_)
          refine A_pure 8 rfl (by kernel_rfl) rfl (Y_extract rfl rfl ?_)
          refine A_pure 9 rfl (by kernel_rfl) rfl (Y_extract rfl rfl ?_)
          refine A_take 7 rfl (by kernel_rfl) rfl hs (Y_extract rfl rfl ?_)
          refine A_tailN 11 rfl (by kernel_rfl) (by kernel_rfl) rfl (S_stA hs Try.sizeOf28 rfl rfl (vs := [_, _, _]) rfl rfl (by simp) (cs' := [_, _, _]) rfl fun _ hs => ?_)
          refine A_tail 12 rfl (by kernel_rfl) (by kernel_rfl) rfl (S_y hs rfl (Y_assign rfl ?_))
          refine A_tail 13 rfl (by kernel_rfl) (by kernel_rfl) rfl (S_y hs rfl (Y_assign rfl ?_))
          exact A_done (by kernel_rfl) (⟨[(2, _), (7, _), (8, _), (10, _), (12, _), (13, _), (18, _), (19, _), (20, _)], ⟨rfl, rfl, rfl, rfl, rfl, rfl, rfl, rfl, rfl, trivial⟩, ⟨b18, _, _, _, _, _, hsp, h10, hu87, hm87, rfl, hs⟩⟩)
      clear hs
      intro E w hI
      obtain ⟨b18, Au87, cu87, A87, c87, G', hsp, h10, hu87, hm87, rfl, hs⟩ := hI
      have hb := hb0.mono hs.le
      refine T_seqJ (fun E w => ∃ (b21 : Nat) (Au97 : Option Addr) (cu97 : Nat) (A97 : Option Addr) (c97 : Nat) (G' : Ghost), LBytes G' (.slice A43 (splitF (wireF L T) (C.take 8)).length c43) (splitF (wireF L T) (C.take 8)) ∧ Bytes G' (.slice Au87 q.1.rest.length cu87) q.1.rest ∧ LBytes G' (.slice A87 q.2.1.length c87) q.2.1 ∧ Bytes G' (.slice Au97 q.1.rest.length cu97) q.1.rest ∧ LBytes G' (.slice A97 q.2.1.length c97) q.2.1 ∧ E = ⟨[], [(2, (.slice Ab b.length cb)), (7, .bool true), (8, .pointer (some ⟨b8, 0, none⟩)), (10, .pointer (some ⟨b10, 0, none⟩)), (12, .slice A43 (splitF (wireF L T) (C.take 8)).length c43), (13, .int .i64 (k : Int)), (18, .pointer (some ⟨b18, 0, none⟩)), (19, .slice A87 q.2.1.length c87), (20, .int .i64 q.2.2), (21, .pointer (some ⟨b21, 0, none⟩)), (22, .slice A97 q.2.1.length c97), (23, .int .i64 q.2.2)]⟩ ∧ St ⟨w0, G, feet []⟩ G' [.blk b21 28 [.slice Au97 q.1.rest.length cu97, .int .i64 q.1.credit, .bool q.1.failed], .blk b18 28 [.slice Au87 q.1.rest.length cu87, .int .i64 q.1.credit, .bool q.1.failed], .blk b10 28 [.slice A10 d'.rest.length c10, .int .i64 d'.credit, .bool d'.failed], .blk b8 28 [.slice A8 d'.rest.length c8, .int .i64 d'.credit, .bool d'.failed]] w) ?_ ?_
      · -- join 16
        refine T_drawS [0, 1, 2, 3, 4, 5, 6, 7, 10] hs (by kernel_rfl) ?_
        replace hs := hs.drew
        refine A_take 0 rfl (by kernel_rfl) rfl hs (Y_ldA 1 Try.isAgg28 Try.sizeOf28 rfl rfl (vs := [_, _, _]) rfl rfl ?_)
        refine A_take 1 rfl (by kernel_rfl) rfl hs (Y_move rfl ?_)
        refine A_take 2 rfl (by kernel_rfl) rfl hs (Y_move rfl ?_)
        refine A_take 3 rfl (by kernel_rfl) rfl hs (Y_idxL hsp k Try.underlying22 Try.sizeOf23 rfl rfl rfl (by omega) fun p95 u95 hp95 hu95 => ?_)
        obtain ⟨A95, c95, rfl, _⟩ := id hu95
        refine A_take 4 rfl (by kernel_rfl) rfl hs (Y_ldG Try.isAgg23 rfl hp95 ?_)
        refine A_two 5 10 rfl rfl (by kernel_rfl) rfl rfl ?_ ?_
        · -- operation 5 comes up
          have hle := hs.le
          refine S_call (H1 := []) hs rfl Try.func14 rfl (by kernel_rfl) (feedR_eq q ⟨_, rfl, h10⟩ hu95 (by omega) hq) fun v19 G' H' _ hR hG97 hs => ?_
          obtain ⟨rfl, dv97, mv97, rfl, ⟨u97, rfl, hu97⟩, hm97⟩ := hR
          replace hs : St _ _ [_, _, _] _ := hs
          replace hb := hb.mono hG97
          replace hsp := hsp.mono hG97
          replace h10 := h10.mono hG97
          replace hu87 := hu87.mono hG97
          replace hm87 := hm87.mono hG97
          replace hu95 := hu95.mono hG97
          obtain ⟨Au97, cu97, rfl, _⟩ := id hu97
          obtain ⟨vs97, hsl97, hvs97⟩ := id hm97
          obtain ⟨A97, c97, rfl, _⟩ := id hsl97
          refine A_moreS hs hle hG97 (List.Sublist.refl _) ?_
          refine A_take 6 rfl (by kernel_rfl) rfl hs (Y_move rfl ?_)
          refine A_pure 8 rfl (by kernel_rfl) rfl (Y_extract rfl rfl ?_)
          refine A_pure 9 rfl (by kernel_rfl) rfl (Y_extract rfl rfl ?_)
          refine A_take 7 rfl (by kernel_rfl) rfl hs (Y_extract rfl rfl ?_)
          have hle := hs.le
          refine A_only 10 rfl (by kernel_rfl) rfl (S_alloc hs Try.zeroValue28 (cs := [_, _, _]) rfl fun b21 _ hs => ?_)
          refine A_moreS hs hle (Ghost.le.refl _) (List.sublist_cons_self _ _) ?_
          refine A_tailN 11 rfl (by kernel_rfl) (by kernel_rfl) rfl (S_stA hs Try.sizeOf28 rfl rfl (vs := [_, _, _]) rfl rfl (by simp) (cs' := [_, _, _]) rfl fun _ hs => ?_)
          refine A_tail 12 rfl (by kernel_rfl) (by kernel_rfl) rfl (S_y hs rfl (Y_assign rfl ?_))
          refine A_tail 13 rfl (by kernel_rfl) (by kernel_rfl) rfl (S_y hs rfl (Y_assign rfl ?_))
          exact A_done (by kernel_rfl) (⟨[(2, _), (7, _), (8, _), (10, _), (12, _), (13, _), (18, _), (19, _), (20, _), (21, _), (22, _), (23, _)], ⟨rfl, rfl, rfl, rfl, rfl, rfl, rfl, rfl, rfl, rfl, rfl, rfl, trivial⟩, ⟨b21, _, _, _, _, _, hsp, hu87, hm87, hu97, hm97, rfl, hs⟩⟩)
        · -- operation 10 comes up
          have hle := hs.le
          refine S_alloc hs Try.zeroValue28 (cs := [_, _, _]) rfl fun b21 _ hs => ?_
          refine A_moreS hs hle (Ghost.le.refl _) (List.sublist_cons_self _ _) ?_
          have hle := hs.le
          refine A_only 5 rfl (by kernel_rfl) rfl (S_call (H1 := []) hs rfl Try.func14 rfl (by kernel_rfl) (feedR_eq q ⟨_, rfl, h10⟩ hu95 (by omega) hq) fun v20 G' H' _ hR hG97 hs => ?_)
          obtain ⟨rfl, dv97, mv97, rfl, ⟨u97, rfl, hu97⟩, hm97⟩ := hR
          replace hs : St _ _ [_, _, _, _] _ := hs
          replace hb := hb.mono hG97
          replace hsp := hsp.mono hG97
          replace h10 := h10.mono hG97
          replace hu87 := hu87.mono hG97
          replace hm87 := hm87.mono hG97
          replace hu95 := hu95.mono hG97
          obtain ⟨Au97, cu97, rfl, _⟩ := id hu97
          obtain ⟨vs97, hsl97, hvs97⟩ := id hm97
          obtain ⟨A97, c97, rfl, _⟩ := id hsl97
          refine A_moreS hs hle hG97 (List.Sublist.refl _) ?_
          refine A_take 6 rfl (by kernel_rfl) rfl hs (Y_move rfl ?_)
          refine A_pure 8 rfl (by kernel_rfl) rfl (Y_extract rfl rfl ?_)
          refine A_pure 9 rfl (by kernel_rfl) rfl (Y_extract rfl rfl ?_)
          refine A_take 7 rfl (by kernel_rfl) rfl hs (Y_extract rfl rfl ?_)
          refine A_tailN 11 rfl (by kernel_rfl) (by kernel_rfl) rfl (S_stA hs Try.sizeOf28 rfl rfl (vs := [_, _, _]) rfl rfl (by simp) (cs' := [_, _, _]) rfl fun _ hs => ?_)
          refine A_tail 12 rfl (by kernel_rfl) (by kernel_rfl) rfl (S_y hs rfl (Y_assign rfl ?_))
          refine A_tail 13 rfl (by kernel_rfl) (by kernel_rfl) rfl (S_y hs rfl (Y_assign rfl ?_))
          exact A_done (by kernel_rfl) (⟨[(2, _), (7, _), (8, _), (10, _), (12, _), (13, _), (18, _), (19, _), (20, _), (21, _), (22, _), (23, _)], ⟨rfl, rfl, rfl, rfl, rfl, rfl, rfl, rfl, rfl, rfl, rfl, rfl, trivial⟩, ⟨b21, _, _, _, _, _, hsp, hu87, hm87, hu97, hm97, rfl, hs⟩⟩)
      clear hs
      intro E w hI
      obtain ⟨b21, Au97, cu97, A97, c97, G', hsp, hu87, hm87, hu97, hm97, rfl, hs⟩ := hI
      have hb := hb0.mono hs.le
      refine T_seq (T_seq (T_region rfl ?_))
      refine O_y hs (Y_ldA 1 Try.isAgg28 Try.sizeOf28 rfl rfl (vs := [_, _, _]) rfl rfl ?_)
      refine O_y hs (Y_ldA 0 Try.isAgg28 Try.sizeOf28 rfl rfl (vs := [_, _, _]) rfl rfl ?_)
      refine O_s (S_call (H1 := []) hs rfl Try.func21 rfl (by kernel_rfl) (same_eq (d := q.1) (e := q.1) ⟨_, rfl, hu87⟩ ⟨_, rfl, hu97⟩ true (by simp)) fun v21 G' H' _ hR hG103 hs => ?_)
      obtain ⟨rfl, rfl⟩ := hR
      replace hs : St _ _ [_, _, _, _] _ := hs
      replace hb := hb.mono hG103
      replace hsp := hsp.mono hG103
      replace hu87 := hu87.mono hG103
      replace hm87 := hm87.mono hG103
      replace hu97 := hu97.mono hG103
      replace hm97 := hm97.mono hG103
      refine O_y hs (Y_not rfl ?_)
      refine O_y hs (Y_move rfl ?_)
      refine O_yy 105 hs rfl rfl (Y_move rfl ?_)
      refine O_yy 105 hs rfl rfl (Y_move rfl ?_)
      refine O_yes 105 rfl rfl (S_call (H1 := []) hs rfl Try.func22 rfl (by kernel_rfl) (sameBytes_eq hm87 hm97 (by omega) true (by simp)) fun v22 G' H' _ hR hG108 hs => ?_)
      obtain ⟨rfl, rfl⟩ := hR
      replace hs : St _ _ [_, _, _, _] _ := hs
      replace hb := hb.mono hG108
      replace hsp := hsp.mono hG108
      replace hu87 := hu87.mono hG108
      replace hm87 := hm87.mono hG108
      replace hu97 := hu97.mono hG108
      replace hm97 := hm97.mono hG108
      refine O_yy 105 hs rfl rfl (Y_not rfl ?_)
      refine O_y hs (Y_pickF rfl rfl ?_)
      refine O_y hs (Y_move rfl ?_)
      refine O_yy 111 hs rfl rfl (Y_move rfl ?_)
      refine O_yy 111 hs rfl rfl (Y_move rfl ?_)
      refine O_yy 111 hs rfl rfl (Y_cmpF rfl rfl rfl (by simp [cmpP]) ?_)
      refine O_y hs (Y_pickF rfl rfl ?_)
      refine O_nil (T_sub [(2, _), (7, _), (8, _), (10, _), (12, _), (13, _), (18, _), (21, _), (115, _)] ⟨rfl, rfl, rfl, rfl, rfl, rfl, rfl, rfl, rfl, trivial⟩ ?_)
      refine T_condF rfl (T_skip ?_)
      refine T_seq (T_region rfl ?_)
      refine O_y hs (Y_ldA 1 Try.isAgg28 Try.sizeOf28 rfl rfl (vs := [_, _, _]) rfl rfl ?_)
      have hs := hs.front 3 rfl (H' := [_, _, _, _]) rfl
      refine O_n (S_stA hs Try.sizeOf28 rfl rfl (vs := [_, _, _]) rfl rfl (by simp) (cs' := [_, _, _]) rfl fun _ hs => ?_)
      refine O_nil (T_sub [(2, _), (7, _), (8, _), (10, _), (12, _), (13, _), (21, _)] ⟨rfl, rfl, rfl, rfl, rfl, rfl, rfl, trivial⟩ ?_)
      refine T_region rfl ?_
      refine O_y hs (Y_ldA 1 Try.isAgg28 Try.sizeOf28 rfl rfl (vs := [_, _, _]) rfl rfl ?_)
      have hs := hs.front 3 rfl (H' := [_, _, _, _]) rfl
      refine O_n (S_stA hs Try.sizeOf28 rfl rfl (vs := [_, _, _]) rfl rfl (by simp) (cs' := [_, _, _]) rfl fun _ hs => ?_)
      refine O_nil (T_sub [(2, _), (7, _), (8, _), (10, _), (12, _), (13, _)] ⟨rfl, rfl, rfl, rfl, rfl, rfl, trivial⟩ ?_)
      refine T_region rfl ?_
      refine O_y hs (Y_move rfl ?_)
      refine O_y hs (Y_add (c := ((k + 1 : Nat) : Int)) rfl rfl (by omega) (by omega) ?_)
      refine O_y hs (Y_assign rfl ?_)
      refine O_nil ⟨_, ?_, [(2, _), (7, _), (8, _), (10, _), (12, _), (13, _)], ⟨rfl, rfl, rfl, rfl, rfl, rfl, trivial⟩, ⟨k + 1, q.1, _, _, _, _, _, by omega, hsp, hu87, hu97, rfl, rfl, hs.weak hs.le (Ghost.le.refl _) (List.sublist_append_left [_, _] _)⟩⟩
      omega
  · -- h47: False
    dsimp only [cmpP] at h47
    refine O_nil (T_sub [(2, _), (7, _), (8, _), (10, _), (12, _), (13, _), (47, _)] ⟨rfl, rfl, rfl, rfl, rfl, rfl, rfl, trivial⟩ ?_)
    refine T_condF rfl (T_exit ?_)
    refine T_seq (T_region rfl ?_)
    refine O_y hs (Y_move rfl ?_)
    refine O_y hs (Y_assign rfl ?_)
    refine O_nil (T_sub [(6, _)] ⟨rfl, trivial⟩ ?_)
    refine T_ret ?_
    refine Rt_fin (vs := [_]) Try.results4 rfl ⟨rfl, trivial⟩ ?_
    try dsimp only [tup]
    exact ⟨_, [], hs.done, rfl, rfl⟩

end Go.Proofs.Ytacchhkefnokdaa
