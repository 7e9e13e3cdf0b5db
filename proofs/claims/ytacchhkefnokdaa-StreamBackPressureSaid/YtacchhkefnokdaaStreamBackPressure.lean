/- The law 'StreamBackPressure' holds at every input: the call returns true, and each argument reads behind the call as it read before. -/
import Derived.Test.YtacchhkefnokdaaExRow
import Derived.Test.YtacchhkefnokdaaLaw10
import Derived.Test.YtacchhkefnokdaaRows
namespace Go.Proofs.Ytacchhkefnokdaa.streamBackPressure
open Go Go.Ex Go.ChangeShapes Go.WideShapes Go.ChangeAt Go.RowKit
theorem own : ownKnob Try.prog.godebug = none := by kernel_rfl
theorem laidOut : laidOutB Try.prog = true := by kernel_rfl
theorem cells3 : Try.prog.cellsOf 3 = 1 := by kernel_rfl
theorem cells5 : Try.prog.cellsOf 5 = 1 := by kernel_rfl
theorem cells23 : Try.prog.cellsOf 23 = 1 := by kernel_rfl
set_option maxRecDepth 100000 in
theorem lifted (os : Os) (started : os.Started) (H : Type) (enc : TypeId × Value → H) :
    ReturnsInHanded {} Try.checked os 10 .any (Rows.streamBackPressureSpec.pre6 enc Try.prog Try.f10 Rows.streamBackPressureRow.domain false) (Rows.streamBackPressureSpec.post enc Try.prog Try.f10 false true false false) := by
  refine returnsInHanded_of_change (C := Try.checked) own started (by kernel_rfl) Try.func10
    (ChangeSpec.witness6 (enc := enc) (C := Try.checked) false ⟨#[], #[.int .u16 0, .int .u16 0], []⟩ 8 (by kernel_rfl) (by kernel_rfl) (by kernel_rfl) (by kernel_rfl)) ?_
  intro W base args ds gs before hval0 hW _ _
  have hval : ∀ (j : Nat) t v, Try.f10.params[j]? = some t → args[j]? = some v → Value.okWide Try.prog W .any base t v := hval0
  have hW' := hW
  obtain ⟨p, q, hA0, hV, rfl, _, _⟩ := hW
  have hA : DataW.TrodAll enc Try.prog W 0 (fun _ => true) true Try.f10.params.toList args.toList ds p := hA0
  rw [Try.params10] at hA hval
  obtain ⟨v0, v1, d0, d1, p0, p1, rfl, rfl, rfl, h0, h1⟩ := trodAll_two hA
  obtain ⟨rfl, rfl⟩ := trodVars_none hV
  obtain ⟨z0, rfl, _, _, w0⟩ := open_int Try.underlying49 (hval 0 49 v0 rfl rfl) h0
  obtain ⟨z1, rfl, _, _, w1⟩ := open_int Try.underlying49 (hval 1 49 v1 rfl rfl) h1
  have hx0 : 0 ≤ z0 ∧ z0 ≤ 65535 := by simpa [Lit.wf, IntKind.min, IntKind.max, IntKind.signed, IntKind.bits] using w0
  obtain ⟨k0, rfl⟩ : ∃ k : Nat, z0 = (k : Int) := ⟨z0.toNat, by omega⟩
  have hx1 : 0 ≤ z1 ∧ z1 ≤ 65535 := by simpa [Lit.wf, IntKind.min, IntKind.max, IntKind.signed, IntKind.bits] using w1
  obtain ⟨k1, rfl⟩ : ∃ k : Nat, z1 = (k : Int) := ⟨z1.toNat, by omega⟩
  refine (law_calls (law10 (show k0 ≤ 65535 by omega) (show k1 ≤ 65535 by omega))).mono fun e W' ⟨he, hg⟩ => ⟨_, he, ?_⟩
  exact post_law laidOut (by kernel_rfl) rfl Try.underlying4 rfl hW' rfl hg
theorem over : Rows.streamBackPressureRow.holds Try.pinned (OpenSpec.ofChange Rows.streamBackPressureSpec) :=
  OpenClaim.holds_of_wide 10 Try.f10 rfl rfl rfl rfl rfl rfl rfl ⟨rfl, rfl, rfl, rfl, rfl⟩ rfl rfl rfl rfl rfl (by kernel_rfl) Try.func10 (by kernel_rfl)
    (of_decide_eq_true (by kernel_rfl)) (by unfold Func.isWrapper; first | (rw [if_pos (by decide +kernel)]; kernel_rfl) | (rw [if_neg (by decide +kernel)]; exact ⟨rfl, rfl⟩))
    (fun os started H enc _ => lifted os started H enc)
theorem proved : Rows.StreamBackPressureSaid := over
end Go.Proofs.Ytacchhkefnokdaa.streamBackPressure
