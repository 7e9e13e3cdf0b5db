/- The law 'StreamCreditsWait' holds at every input: the call returns true, and each argument reads behind the call as it read before. -/
import Derived.Test.YtacchhkefnokdaaExRow
import Derived.Test.YtacchhkefnokdaaLaw8
import Derived.Test.YtacchhkefnokdaaRows
namespace Go.Proofs.Ytacchhkefnokdaa.streamCreditsWait
open Go Go.Ex Go.ChangeShapes Go.WideShapes Go.ChangeAt Go.RowKit
theorem own : ownKnob Try.prog.godebug = none := by kernel_rfl
theorem laidOut : laidOutB Try.prog = true := by kernel_rfl
theorem cells3 : Try.prog.cellsOf 3 = 1 := by kernel_rfl
theorem cells5 : Try.prog.cellsOf 5 = 1 := by kernel_rfl
theorem cells23 : Try.prog.cellsOf 23 = 1 := by kernel_rfl
set_option maxRecDepth 100000 in
theorem lifted (os : Os) (started : os.Started) (H : Type) (enc : TypeId × Value → H) :
    ReturnsInHanded {} Try.checked os 8 .any (Rows.streamCreditsWaitSpec.pre6 enc Try.prog Try.f8 Rows.streamCreditsWaitRow.domain false) (Rows.streamCreditsWaitSpec.post enc Try.prog Try.f8 false true false false) := by
  refine returnsInHanded_of_change (C := Try.checked) own started (by kernel_rfl) Try.func8
    (ChangeSpec.witness6 (enc := enc) (C := Try.checked) false ⟨#[], #[.slice none 0 0, .agg #[.int .u8 0, .int .u8 0]], []⟩ 8 (by kernel_rfl) (by kernel_rfl) (by kernel_rfl) (by kernel_rfl)) ?_
  intro W base args ds gs before hval0 hW _ _
  have hval : ∀ (j : Nat) t v, Try.f8.params[j]? = some t → args[j]? = some v → Value.okWide Try.prog W .any base t v := hval0
  have hW' := hW
  obtain ⟨p, q, hA0, hV, rfl, _, _⟩ := hW
  have hA : DataW.TrodAll enc Try.prog W 0 (fun _ => true) true Try.f8.params.toList args.toList ds p := hA0
  rw [Try.params8] at hA hval
  obtain ⟨v0, v1, d0, d1, p0, p1, rfl, rfl, rfl, h0, h1⟩ := trodAll_two hA
  obtain ⟨rfl, rfl⟩ := trodVars_none hV
  obtain ⟨a0, len0, cap0, rfl⟩ := okWide_slice Try.underlying22 (hval 0 22 v0 rfl rfl)
  obtain ⟨n0, h0⟩ := h0
  obtain ⟨n1, h1⟩ := h1
  obtain ⟨l0, hl0⟩ := lbytes_row Try.underlying22 cells23 Try.underlying23 Try.underlying5 cells5 h0
  obtain ⟨z1a, z1b, rfl, wa1, wb1⟩ := pair_row Try.underlying52 Try.underlying5 (by kernel_rfl) cells5 (hval 1 52 v1 rfl rfl) h1
  have hxa1 : 0 ≤ z1a ∧ z1a ≤ 255 := by simpa [Lit.wf, IntKind.min, IntKind.max, IntKind.signed, IntKind.bits] using wa1
  have hxb1 : 0 ≤ z1b ∧ z1b ≤ 255 := by simpa [Lit.wf, IntKind.min, IntKind.max, IntKind.signed, IntKind.bits] using wb1
  obtain ⟨ka1, rfl⟩ : ∃ k : Nat, z1a = (k : Int) := ⟨z1a.toNat, by omega⟩
  obtain ⟨kb1, rfl⟩ : ∃ k : Nat, z1b = (k : Int) := ⟨z1b.toNat, by omega⟩
  refine (law_calls (law8 hl0 (show ka1 ≤ 255 by omega) (show kb1 ≤ 255 by omega))).mono fun e W' ⟨he, hg⟩ => ⟨_, he, ?_⟩
  exact post_law laidOut (by kernel_rfl) rfl Try.underlying4 rfl hW' rfl hg
theorem over : Rows.streamCreditsWaitRow.holds Try.pinned (OpenSpec.ofChange Rows.streamCreditsWaitSpec) :=
  OpenClaim.holds_of_wide 8 Try.f8 rfl rfl rfl rfl rfl rfl rfl ⟨rfl, rfl, rfl, rfl, rfl⟩ rfl rfl rfl rfl rfl (by kernel_rfl) Try.func8 (by kernel_rfl)
    (of_decide_eq_true (by kernel_rfl)) (by unfold Func.isWrapper; first | (rw [if_pos (by decide +kernel)]; kernel_rfl) | (rw [if_neg (by decide +kernel)]; exact ⟨rfl, rfl⟩))
    (fun os started H enc _ => lifted os started H enc)
theorem proved : Rows.StreamCreditsWaitSaid := over
end Go.Proofs.Ytacchhkefnokdaa.streamCreditsWait
