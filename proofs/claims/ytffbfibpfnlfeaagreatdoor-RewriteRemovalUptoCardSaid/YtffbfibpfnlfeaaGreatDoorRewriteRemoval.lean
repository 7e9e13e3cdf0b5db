/- The law 'RewriteRemoval' holds at every input that holds at most 1048576 values and letters: the call returns true, and each argument reads behind the call as it read before. The library's table of bit positions is tied to the program's text. -/
import Derived.Test.YtffbfibpfnlfeaaGreatDoorExRowU
import Derived.Test.YtffbfibpfnlfeaaGreatDoorExBulk
import Derived.Test.YtffbfibpfnlfeaaGreatDoorLaw6
import Derived.Test.YtffbfibpfnlfeaaGreatDoorCards
import Derived.Test.YtffbfibpfnlfeaaGreatDoorTie
import Derived.SevenTiedAt
namespace Go.Proofs.YtffbfibpfnlfeaaGreatDoor.rewriteRemoval
open Go Go.Ex Go.ChangeShapes Go.WideShapes Go.ChangeAt Go.RowKit
theorem own : ownKnob Tryz.prog.godebug = none := by kernel_rfl
theorem laidOut : laidOutB Tryz.prog = true := by kernel_rfl
theorem cellsU8 : Tryz.prog.cellsOf 5 = 1 := by kernel_rfl
theorem cellsT : Tryz.prog.cellsOf 145 = 64 := by kernel_rfl
theorem gTab : Tryz.prog.globalNamed "math/bits.deBruijn64tab" = some 1 := by kernel_rfl
theorem gTabType : (Tryz.prog.globals[1]?).map (·.type) = some 145 := by kernel_rfl
theorem table {W : World} (h : laidMetH Tryz.prog Rows.rewriteRemovalUptoRow.laid W) : Lib.TabIs Tryz.prog W "math/bits.deBruijn64tab" .u8 (tab64.map fun n : Nat => (n : Int)) :=
  Lib.tabIs_of_head (rest := []) gTab gTabType Tryz.underlying145 Tryz.underlying5 cellsU8 cellsT h
theorem tabW {W : World} (h : laidMetH Tryz.prog Rows.rewriteRemovalUptoRow.laid W) : Tab (Ex.whole W) := fun i hi => by
  rw [gcell_whole, (table h).cell gTab i (by simpa [tab64] using hi)]
  congr 2
  simp only [List.getD_eq_getElem?_getD, List.getElem?_map]
  rw [List.getElem?_eq_getElem (by exact hi)]; rfl
theorem maxW {W : World} (h : W.ShapedOpen Tryz.prog) : MaxL (Ex.whole W) := by
  obtain ⟨m, hm⟩ := int_of_shape (g := 0) (t := 3) (zero := #[.int .i64 0]) h (of_decide_eq_true (by kernel_rfl)) (by kernel_rfl) rfl (by kernel_rfl) (by kernel_rfl) Tryz.underlying3
  exact ⟨m, by rw [gcell_whole]; exact hm⟩
/-- A world for the witness: the settled one, the table laid. -/
noncomputable def laidWorld (os : Os) : World :=
  { World.holding Tryz.prog os ⟨#[], #[], []⟩ with heap := (World.holding Tryz.prog os ⟨#[], #[], []⟩).heap.modify 1 fun
      | .cells _ t frozen => .cells #[.int .u8 0, .int .u8 1, .int .u8 56, .int .u8 2, .int .u8 57, .int .u8 49, .int .u8 28, .int .u8 3, .int .u8 61, .int .u8 58, .int .u8 42, .int .u8 50, .int .u8 38, .int .u8 29, .int .u8 17, .int .u8 4, .int .u8 62, .int .u8 47, .int .u8 59, .int .u8 36, .int .u8 45, .int .u8 43, .int .u8 51, .int .u8 22, .int .u8 53, .int .u8 39, .int .u8 33, .int .u8 30, .int .u8 24, .int .u8 18, .int .u8 12, .int .u8 5, .int .u8 63, .int .u8 55, .int .u8 48, .int .u8 27, .int .u8 60, .int .u8 41, .int .u8 37, .int .u8 16, .int .u8 46, .int .u8 35, .int .u8 44, .int .u8 21, .int .u8 52, .int .u8 32, .int .u8 23, .int .u8 11, .int .u8 54, .int .u8 26, .int .u8 40, .int .u8 15, .int .u8 34, .int .u8 20, .int .u8 31, .int .u8 10, .int .u8 25, .int .u8 14, .int .u8 19, .int .u8 9, .int .u8 13, .int .u8 8, .int .u8 7, .int .u8 6] t frozen
      | o => o }
theorem laid_met (os : Os) : laidMet Tryz.prog Rows.rewriteRemovalUptoRow.laid ((laidWorld os).forCall (fun _ _ => 0) ⟨#[], #[.agg #[.int .i64 0, .slice none 0 0, .slice none 0 0], .slice none 0 0, .agg #[.int .u64 0, .int .u64 0, .int .u64 0, .int .u64 0]], []⟩).memory :=
  laidMet_of_run' 8 (by kernel_rfl) (by kernel_rfl)
theorem reads (os : Os) {H : Type} (enc : TypeId × Value → H) : ∃ places, DataW.whole enc Tryz.prog ((laidWorld os).forCall (fun _ _ => 0) ⟨#[], #[.agg #[.int .i64 0, .slice none 0 0, .slice none 0 0], .slice none 0 0, .agg #[.int .u64 0, .int .u64 0, .int .u64 0, .int .u64 0]], []⟩).memory Tryz.f6.params.toList Rows.rewriteRemovalSpec.vars false (#[.agg #[.int .i64 0, .slice none 0 0, .slice none 0 0], .slice none 0 0, .agg #[.int .u64 0, .int .u64 0, .int .u64 0, .int .u64 0]] : Array Value).toList 8 = some ([.agg [.lit (.int .i64 0), .nil, .nil], .nil, .agg [.lit (.int .u64 0), .lit (.int .u64 0), .lit (.int .u64 0), .lit (.int .u64 0)]], [], places) :=
  ⟨[], by kernel_rfl⟩
set_option maxRecDepth 100000 in
theorem lifted (os : Os) (started : os.Started) (H : Type) (enc : TypeId × Value → H) (F : Stop.Interp) :
    ReturnsInHanded {} Tryz.checked os 6 .any ((Rows.OpenSpec.upto Rows.rewriteRemovalSpec).preRow enc Tryz.prog Tryz.f6 Rows.rewriteRemovalUptoRow.domain false Rows.rewriteRemovalUptoRow.laid) (((Rows.OpenSpec.upto Rows.rewriteRemovalSpec).at F).post enc Tryz.prog Tryz.f6 false true false false) := by
  obtain ⟨places, hx⟩ := reads os enc
  refine returnsInHanded_of_row (C := Tryz.checked) (s := Rows.OpenSpec.upto Rows.rewriteRemovalSpec) own started (by kernel_rfl) Tryz.func6
    (witness_row_at (enc := enc) (C := Tryz.checked) false (laidWorld os) #[.agg #[.int .i64 0, .slice none 0 0, .slice none 0 0], .slice none 0 0, .agg #[.int .u64 0, .int .u64 0, .int .u64 0, .int .u64 0]] rfl (by kernel_rfl) (by kernel_rfl) (by kernel_rfl)
      (OpenSpec.preRow_of_cond 8 hx (by kernel_rfl) (fun k hk => by cases hk; kernel_rfl) (by kernel_rfl) (laid_met os))) ?_
  intro W base args ds gs before hval0 hW _ hcond _ hL hSh _
  have hval : ∀ (j : Nat) t v, Tryz.f6.params[j]? = some t → args[j]? = some v → Value.okWide Tryz.prog W .any base t v := hval0
  have hW' := hW
  obtain ⟨p, q, hA0, hV, rfl, _, _⟩ := hW
  have hA : DataW.TrodAll enc Tryz.prog W 0 (fun _ => true) true Tryz.f6.params.toList args.toList ds p := hA0
  rw [Tryz.params6] at hA hval
  obtain ⟨v0, v1, v2, d0, d1, d2, p0, p1, p2, rfl, rfl, rfl, h0, h1, h2⟩ := trodAll_three hA
  obtain ⟨rfl, rfl⟩ := trodVars_none hV
  have hk : Rows.uptoSmall H _ = true := hcond _ rfl
  have hT := tabW hL
  have hm := maxW hSh
  obtain ⟨K0, O0, W0, yK0, yO0, yW0, n0, rfl, rfl, _, hK0, hO0, hW0⟩ := Joins.open_agg3 Tryz.underlying24 (by kernel_rfl) (by kernel_rfl) (hval 0 24 v0 rfl rfl) h0
  obtain ⟨a1, len1, cap1, rfl⟩ := okWide_slice Tryz.underlying22 (hval 1 22 v1 rfl rfl)
  obtain ⟨n1, h1⟩ := h1
  obtain ⟨c2, rfl, hc2, _⟩ := class_row Tryz.underlying27 Tryz.underlying25 (by kernel_rfl) (by kernel_rfl) (hval 2 27 v2 rfl rfl) h2
  obtain ⟨kd0, rfl, wk0⟩ := int_cell Tryz.underlying3 hK0
  obtain ⟨o0, ho0, hpo0⟩ := bytes_rowN Tryz.underlying22 Tryz.underlying5 cellsU8 hO0
  obtain ⟨nw0, hnw0, hpn0⟩ := bytes_rowN Tryz.underlying22 Tryz.underlying5 cellsU8 hW0
  have hx0 : -9223372036854775808 ≤ kd0 ∧ kd0 ≤ 9223372036854775807 := by simpa [Lit.wf, IntKind.min, IntKind.max, IntKind.signed, IntKind.bits] using wk0
  have hno0 : o0.length ≤ 1048576 := Bulk.len_in hpo0 (parts := [yK0.1, yO0.1, yW0.1]) (by simp) (by simp) hk
  have hnn0 : nw0.length ≤ 1048576 := Bulk.len_in hpn0 (parts := [yK0.1, yO0.1, yW0.1]) (by simp) (by simp) hk
  obtain ⟨b1, hb1, hp1⟩ := bytes_rowN Tryz.underlying22 Tryz.underlying5 cellsU8 h1
  have hn1 : b1.length ≤ 1048576 := Bulk.len_le hp1 (by simp) hk
  refine (law_calls (lawRemoval (o := ⟨kd0, o0, nw0⟩) ⟨_, _, rfl, ho0, hnw0⟩ hx0 (by dsimp only; omega) (by dsimp only; omega) hb1 (by omega) hc2 hT hm)).mono fun e W' ⟨he, hg⟩ => ⟨_, he, ?_⟩
  exact post_law (s := Rows.rewriteRemovalSpec) laidOut (by kernel_rfl) rfl Tryz.underlying4 rfl hW' rfl hg
theorem said : Rows.RewriteRemovalUptoSaid :=
  OpenClaim.holds_of_cond 6 Tryz.f6 rfl rfl rfl rfl rfl rfl rfl ⟨rfl, rfl, rfl, rfl, rfl⟩ rfl rfl rfl rfl rfl (by kernel_rfl) Tryz.func6 (by kernel_rfl)
    (of_decide_eq_true (by kernel_rfl)) (by unfold Func.isWrapper; first | (rw [if_pos (by decide +kernel)]; kernel_rfl) | (rw [if_neg (by decide +kernel)]; exact ⟨rfl, rfl⟩))
    (fun os started H enc _ F => by rw [OpenClaim.pre_eq_preRow]; exact lifted os started H enc F)
theorem plain (f : FuncId) (fn : Func) (hf : Tryz.pinned.checked.prog.funcNamed "univocal/univocallaw08.RewriteRemoval" = some f) (hfn : Tryz.pinned.checked.prog.funcs[f]? = some fn) :
    false = Tryz.pinned.checked.prog.looks [] ∧ ∀ (j : Nat) t, fn.params[j]? = some t → Tryz.pinned.checked.prog.wantsStandIn t = false := by
  obtain rfl : f = 6 := Option.some.inj ((show Tryz.prog.funcNamed "univocal/univocallaw08.RewriteRemoval" = some 6 by kernel_rfl).symm.trans hf) |>.symm
  obtain rfl : fn = Tryz.f6 := (Option.some.inj (Tryz.func6.symm.trans hfn)).symm
  refine ⟨by kernel_rfl, fun j t ht => ?_⟩
  rw [Tryz.params6] at ht
  have hm := Array.mem_of_getElem? ht
  simp only [List.mem_toArray, List.mem_cons, List.not_mem_nil, or_false] at hm
  rcases hm with rfl | rfl | rfl
  all_goals exact (show Tryz.prog.wantsStandIn _ = false by kernel_rfl)
theorem proved : Rows.RewriteRemovalUptoCardSaid :=
  Claim7.holds_tied_plain_at .later [] _ _ _ _ said (fun _ h => by cases h) (by kernel_rfl) (fun _ h => by cases h) rewriteRemovalUpto_row_tie rfl ⟨rfl, rfl⟩ (by kernel_rfl) rfl plain (by kernel_rfl)
end Go.Proofs.YtffbfibpfnlfeaaGreatDoor.rewriteRemoval
