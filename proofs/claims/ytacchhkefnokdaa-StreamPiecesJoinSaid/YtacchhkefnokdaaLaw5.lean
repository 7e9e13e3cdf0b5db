import Derived.Test.YtacchhkefnokdaaExWalks
namespace Go.Proofs.Ytacchhkefnokdaa
open Go Go.Ex Go.RowKit


set_option maxHeartbeats 400000 in
set_option maxRecDepth 10000 in
theorem law5 {v v2 : Value} {G : Ghost} {b : List UInt8} {l : List Int} (hb : Bytes G v b) (hl : Ints G v2 l) :
    FnOk Try.prog 5 [v, v2] G [] fun r _ H' => H' = [] ∧ r = .bool true := by
  obtain ⟨A, cap, rfl, hb'⟩ := id hb
  obtain ⟨A1, c1, rfl, hl'⟩ := id hl
  refine FnOk.of_T [(0, _), (1, _)] Try.func5 rfl Try.ntmps5 (by simp) rfl fun w0 hs => ?_
  have hb0 := hb
  have hl0 := hl
  have hX : ((b.drop 0).take (min b.length 300 - 0)).length ≤ 300 := by rw [List.length_take, List.length_drop]; omega
  have hY : ((l.drop 0).take (min l.length 20 - 0)).length ≤ 20 := by rw [List.length_take, List.length_drop]; omega
  refine T_seq (T_region rfl ?_)
  refine O_y hs (Y_assign rfl ?_)
  refine O_nil (T_sub [(0, _), (1, _)] ⟨rfl, rfl, trivial⟩ ?_)
  refine T_seq (T_region rfl ?_)
  refine O_s (S_call (H1 := []) hs rfl Try.func11 rfl (by kernel_rfl) (sanity_ok) fun v1 G' H' _ hR hG9 hs => ?_)
  obtain ⟨rfl, rfl⟩ := hR
  replace hs : St _ _ [] _ := hs
  replace hb := hb.mono hG9
  replace hl := hl.mono hG9
  refine O_y hs (Y_assign rfl ?_)
  refine O_nil (T_sub [(0, _), (1, _), (5, _)] ⟨rfl, rfl, rfl, trivial⟩ ?_)
  refine T_seq (T_drawS [0, 1, 2, 3, 4, 5, 6, 7, 8, 9, 10, 11] hs (by kernel_rfl) ?_)
  replace hs := hs.drew
  refine A_take 0 rfl (by kernel_rfl) rfl hs (Y_move rfl ?_)
  refine A_take 1 rfl (by kernel_rfl) rfl hs (Y_move rfl ?_)
  refine A_take 2 rfl (by kernel_rfl) rfl hs (Y_len Try.underlying23 rfl ?_)
  refine A_take 3 rfl (by kernel_rfl) rfl hs (Y_min (c := ((min b.length 300 : Nat) : Int)) rfl rfl (by omega) ?_)
  refine A_take 4 rfl (by kernel_rfl) rfl hs (Y_sliceB hb 0 (min b.length 300) Try.underlying23 Try.sizeOf5 rfl rfl ⟨_, _, rfl, rfl⟩ (by omega) (by omega) fun s14 hs14 => ?_)
  obtain ⟨A14, c14, rfl, _⟩ := id hs14
  refine A_take 5 rfl (by kernel_rfl) rfl hs (Y_move rfl ?_)
  refine A_take 6 rfl (by kernel_rfl) rfl hs (Y_move rfl ?_)
  refine A_take 7 rfl (by kernel_rfl) rfl hs (Y_len Try.underlying24 rfl ?_)
  refine A_take 8 rfl (by kernel_rfl) rfl hs (Y_min (c := ((min l.length 20 : Nat) : Int)) rfl rfl (by omega) ?_)
  refine A_take 9 rfl (by kernel_rfl) rfl hs (Y_sliceI hl 0 (min l.length 20) Try.underlying24 Try.sizeOf3 rfl rfl ⟨_, _, rfl, rfl⟩ (by omega) (by omega) fun s19 hs19 => ?_)
  obtain ⟨A19, c19, rfl, _⟩ := id hs19
  refine A_take 10 rfl (by kernel_rfl) rfl hs (Y_assign rfl ?_)
  refine A_take 11 rfl (by kernel_rfl) rfl hs (Y_assign rfl ?_)
  refine A_done (by kernel_rfl) (T_sub [(5, _), (6, _), (7, _)] ⟨rfl, rfl, rfl, trivial⟩ ?_)
  refine T_seq (T_region rfl ?_)
  refine O_y hs (Y_move rfl ?_)
  refine O_y hs (Y_move rfl ?_)
  refine O_s (S_call (H1 := []) hs rfl Try.func23 rfl (by kernel_rfl) (split_ok hs14 hs19 (by omega) (by omega)) fun v2 G' H' _ hR hG22 hs => ?_)
  obtain ⟨rfl, hsp⟩ := hR
  replace hs : St _ _ [] _ := hs
  replace hb := hb.mono hG22
  replace hl := hl.mono hG22
  replace hs14 := hs14.mono hG22
  replace hs19 := hs19.mono hG22
  obtain ⟨vs22, hsl22, _⟩ := id hsp
  obtain ⟨A22, c22, rfl, _⟩ := id hsl22
  refine O_y hs (Y_assign rfl ?_)
  refine O_nil (T_sub [(5, _), (6, _), (7, _), (8, _)] ⟨rfl, rfl, rfl, rfl, trivial⟩ ?_)
  refine T_seq (T_drawS [0, 1, 2, 3, 4, 5, 6, 7, 8, 9, 10, 11, 12, 13, 14, 15, 16, 17] hs (by kernel_rfl) ?_)
  replace hs := hs.drew
  refine A_take 0 rfl (by kernel_rfl) rfl hs (Y_move rfl ?_)
  refine A_take 1 rfl (by kernel_rfl) rfl hs (Y_len Try.underlying22 rfl ?_)
  refine A_take 2 rfl (by kernel_rfl) rfl hs (Y_move rfl ?_)
  refine A_take 3 rfl (by kernel_rfl) rfl hs (Y_len Try.underlying24 rfl ?_)
  refine A_take 4 rfl (by kernel_rfl) rfl hs (Y_add (c := ((((l.drop 0).take (min l.length 20 - 0)).length + 1 : Nat) : Int)) rfl rfl (by omega) (by omega) ?_)
  refine A_take 5 rfl (by kernel_rfl) rfl hs (Y_cmpT rfl rfl rfl (by dsimp only [cmpP]; rw [splitF_len]) ?_)
  refine A_take 6 rfl (by kernel_rfl) rfl hs (Y_move rfl ?_)
  refine A_take 7 rfl (by kernel_rfl) rfl hs (Y_move rfl ?_)
  refine A_take 10 rfl (by kernel_rfl) rfl hs (Y_move rfl ?_)
  refine A_take 11 rfl (by kernel_rfl) rfl hs (Y_str Try.underlying23 Try.underlying5 Try.underlying9 rfl hs14 ?_)
  have hle := hs.le
  refine A_only 8 rfl (by kernel_rfl) rfl (S_call (H1 := []) hs rfl Try.func26 rfl (by kernel_rfl) (join_ok hsp (by rw [splitF_len]; omega) (by rw [splitF_flat]; omega)) fun v3 G' H' _ hR hG31 hs => ?_)
  obtain ⟨rfl, hj⟩ := hR
  replace hs : St _ _ [] _ := hs
  replace hb := hb.mono hG31
  replace hl := hl.mono hG31
  replace hs14 := hs14.mono hG31
  replace hs19 := hs19.mono hG31
  replace hsp := hsp.mono hG31
  refine A_moreS hs hle hG31 (List.Sublist.refl _) ?_
  refine A_take 9 rfl (by kernel_rfl) rfl hs (Y_str Try.underlying23 Try.underlying5 Try.underlying9 rfl hj ?_)
  refine A_take 12 rfl (by kernel_rfl) rfl hs (Y_strEq rfl rfl (b := true) (by rw [splitF_flat]; simp) ?_)
  refine A_take 13 rfl (by kernel_rfl) rfl hs (Y_pickT rfl rfl ?_)
  refine A_take 14 rfl (by kernel_rfl) rfl hs (Y_move rfl ?_)
  refine A_take 15 rfl (by kernel_rfl) rfl hs (Y_move rfl ?_)
  refine A_take 16 rfl (by kernel_rfl) rfl hs (Y_pickT rfl rfl ?_)
  refine A_take 17 rfl (by kernel_rfl) rfl hs (Y_assign rfl ?_)
  refine A_done (by kernel_rfl) (T_sub [(4, _)] ⟨rfl, trivial⟩ ?_)
  refine T_ret ?_
  refine Rt_fin (vs := [_]) Try.results5 rfl ⟨rfl, trivial⟩ ?_
  try dsimp only [tup]
  exact ⟨_, [], hs.done, rfl, rfl⟩

end Go.Proofs.Ytacchhkefnokdaa
