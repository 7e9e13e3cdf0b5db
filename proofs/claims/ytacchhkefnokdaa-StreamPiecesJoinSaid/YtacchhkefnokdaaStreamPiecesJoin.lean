/- The law 'StreamPiecesJoin' holds at every input: the call returns true, and each argument reads behind the call as it read before. -/
import Derived.Test.YtacchhkefnokdaaExRow
import Derived.Test.YtacchhkefnokdaaLaw5
import Derived.Test.YtacchhkefnokdaaRows
namespace Go.Proofs.Ytacchhkefnokdaa.streamPiecesJoin
open Go Go.Ex Go.ChangeShapes Go.WideShapes Go.ChangeAt Go.RowKit
theorem own : ownKnob Try.prog.godebug = none := by kernel_rfl
theorem laidOut : laidOutB Try.prog = true := by kernel_rfl
theorem cells3 : Try.prog.cellsOf 3 = 1 := by kernel_rfl
theorem cells5 : Try.prog.cellsOf 5 = 1 := by kernel_rfl
theorem cells23 : Try.prog.cellsOf 23 = 1 := by kernel_rfl
set_option maxRecDepth 100000 in
theorem lifted (os : Os) (started : os.Started) (H : Type) (enc : TypeId × Value → H) :
    ReturnsInHanded {} Try.checked os 5 .any (Rows.streamPiecesJoinSpec.pre6 enc Try.prog Try.f5 Rows.streamPiecesJoinRow.domain false) (Rows.streamPiecesJoinSpec.post enc Try.prog Try.f5 false true false false) := by
  refine returnsInHanded_of_change (C := Try.checked) own started (by kernel_rfl) Try.func5
    (ChangeSpec.witness6 (enc := enc) (C := Try.checked) false ⟨#[], #[.slice none 0 0, .slice none 0 0], []⟩ 8 (by kernel_rfl) (by kernel_rfl) (by kernel_rfl) (by kernel_rfl)) ?_
  intro W base args ds gs before hval0 hW _ _
  have hval : ∀ (j : Nat) t v, Try.f5.params[j]? = some t → args[j]? = some v → Value.okWide Try.prog W .any base t v := hval0
  have hW' := hW
  obtain ⟨p, q, hA0, hV, rfl, _, _⟩ := hW
  have hA : DataW.TrodAll enc Try.prog W 0 (fun _ => true) true Try.f5.params.toList args.toList ds p := hA0
  rw [Try.params5] at hA hval
  obtain ⟨v0, v1, d0, d1, p0, p1, rfl, rfl, rfl, h0, h1⟩ := trodAll_two hA
  obtain ⟨rfl, rfl⟩ := trodVars_none hV
  obtain ⟨a0, len0, cap0, rfl⟩ := okWide_slice Try.underlying23 (hval 0 23 v0 rfl rfl)
  obtain ⟨n0, h0⟩ := h0
  obtain ⟨a1, len1, cap1, rfl⟩ := okWide_slice Try.underlying24 (hval 1 24 v1 rfl rfl)
  obtain ⟨n1, h1⟩ := h1
  obtain ⟨b0, hb0⟩ := bytes_row Try.underlying23 Try.underlying5 cells5 h0
  obtain ⟨l1, _, hl1⟩ := ints_row Try.underlying24 Try.underlying3 cells3 h1
  refine (law_calls (law5 hb0 hl1)).mono fun e W' ⟨he, hg⟩ => ⟨_, he, ?_⟩
  exact post_law laidOut (by kernel_rfl) rfl Try.underlying4 rfl hW' rfl hg
theorem over : Rows.streamPiecesJoinRow.holds Try.pinned (OpenSpec.ofChange Rows.streamPiecesJoinSpec) :=
  OpenClaim.holds_of_wide 5 Try.f5 rfl rfl rfl rfl rfl rfl rfl ⟨rfl, rfl, rfl, rfl, rfl⟩ rfl rfl rfl rfl rfl (by kernel_rfl) Try.func5 (by kernel_rfl)
    (of_decide_eq_true (by kernel_rfl)) (by unfold Func.isWrapper; first | (rw [if_pos (by decide +kernel)]; kernel_rfl) | (rw [if_neg (by decide +kernel)]; exact ⟨rfl, rfl⟩))
    (fun os started H enc _ => lifted os started H enc)
theorem proved : Rows.StreamPiecesJoinSaid := over
end Go.Proofs.Ytacchhkefnokdaa.streamPiecesJoin
