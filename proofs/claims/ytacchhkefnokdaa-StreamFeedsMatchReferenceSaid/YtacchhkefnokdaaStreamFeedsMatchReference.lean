/- The law 'StreamFeedsMatchReference' holds at every input: the call returns true, and each argument reads behind the call as it read before. -/
import Derived.Test.YtacchhkefnokdaaExRow
import Derived.Test.YtacchhkefnokdaaLaw4
import Derived.Test.YtacchhkefnokdaaRows
namespace Go.Proofs.Ytacchhkefnokdaa.streamFeedsMatchReference
open Go Go.Ex Go.ChangeShapes Go.WideShapes Go.ChangeAt Go.RowKit
theorem own : ownKnob Try.prog.godebug = none := by kernel_rfl
theorem laidOut : laidOutB Try.prog = true := by kernel_rfl
theorem cells3 : Try.prog.cellsOf 3 = 1 := by kernel_rfl
theorem cells5 : Try.prog.cellsOf 5 = 1 := by kernel_rfl
theorem cells23 : Try.prog.cellsOf 23 = 1 := by kernel_rfl
set_option maxRecDepth 100000 in
theorem lifted (os : Os) (started : os.Started) (H : Type) (enc : TypeId × Value → H) :
    ReturnsInHanded {} Try.checked os 4 .any (Rows.streamFeedsMatchReferenceSpec.pre6 enc Try.prog Try.f4 Rows.streamFeedsMatchReferenceRow.domain false) (Rows.streamFeedsMatchReferenceSpec.post enc Try.prog Try.f4 false true false false) := by
  refine returnsInHanded_of_change (C := Try.checked) own started (by kernel_rfl) Try.func4
    (ChangeSpec.witness6 (enc := enc) (C := Try.checked) false ⟨#[], #[.agg #[.slice none 0 0, .slice none 0 0, .slice none 0 0], .int .u8 0, .slice none 0 0], []⟩ 8 (by kernel_rfl) (by kernel_rfl) (by kernel_rfl) (by kernel_rfl)) ?_
  intro W base args ds gs before hval0 hW _ _
  have hval : ∀ (j : Nat) t v, Try.f4.params[j]? = some t → args[j]? = some v → Value.okWide Try.prog W .any base t v := hval0
  have hW' := hW
  obtain ⟨p, q, hA0, hV, rfl, _, _⟩ := hW
  have hA : DataW.TrodAll enc Try.prog W 0 (fun _ => true) true Try.f4.params.toList args.toList ds p := hA0
  rw [Try.params4] at hA hval
  obtain ⟨v0, v1, v2, d0, d1, d2, p0, p1, p2, rfl, rfl, rfl, h0, h1, h2⟩ := trodAll_three hA
  obtain ⟨rfl, rfl⟩ := trodVars_none hV
  obtain ⟨L0, T0, C0, yL0, yT0, yC0, n0, rfl, _, _, hL0, hT0, hC0⟩ := Joins.open_agg3 Try.underlying26 (by kernel_rfl) (by kernel_rfl) (hval 0 26 v0 rfl rfl) h0
  obtain ⟨z1, rfl, _, _, w1⟩ := open_int Try.underlying5 (hval 1 5 v1 rfl rfl) h1
  obtain ⟨a2, len2, cap2, rfl⟩ := okWide_slice Try.underlying23 (hval 2 23 v2 rfl rfl)
  obtain ⟨n2, h2⟩ := h2
  obtain ⟨L0', hL0⟩ := lbytes_row Try.underlying22 cells23 Try.underlying23 Try.underlying5 cells5 hL0
  obtain ⟨T0', hT0⟩ := bytes_row Try.underlying23 Try.underlying5 cells5 hT0
  obtain ⟨C0', _, hC0⟩ := ints_row Try.underlying24 Try.underlying3 cells3 hC0
  have hx1 : 0 ≤ z1 ∧ z1 ≤ 255 := by simpa [Lit.wf, IntKind.min, IntKind.max, IntKind.signed, IntKind.bits] using w1
  obtain ⟨k1, rfl⟩ : ∃ k : Nat, z1 = (k : Int) := ⟨z1.toNat, by omega⟩
  obtain ⟨b2, hb2⟩ := bytes_row Try.underlying23 Try.underlying5 cells5 h2
  refine (law_calls (law4 hL0 hT0 hC0 (show k1 ≤ 255 by omega) hb2)).mono fun e W' ⟨he, hg⟩ => ⟨_, he, ?_⟩
  exact post_law laidOut (by kernel_rfl) rfl Try.underlying4 rfl hW' rfl hg
theorem over : Rows.streamFeedsMatchReferenceRow.holds Try.pinned (OpenSpec.ofChange Rows.streamFeedsMatchReferenceSpec) :=
  OpenClaim.holds_of_wide 4 Try.f4 rfl rfl rfl rfl rfl rfl rfl ⟨rfl, rfl, rfl, rfl, rfl⟩ rfl rfl rfl rfl rfl (by kernel_rfl) Try.func4 (by kernel_rfl)
    (of_decide_eq_true (by kernel_rfl)) (by unfold Func.isWrapper; first | (rw [if_pos (by decide +kernel)]; kernel_rfl) | (rw [if_neg (by decide +kernel)]; exact ⟨rfl, rfl⟩))
    (fun os started H enc _ => lifted os started H enc)
theorem proved : Rows.StreamFeedsMatchReferenceSaid := over
end Go.Proofs.Ytacchhkefnokdaa.streamFeedsMatchReference
