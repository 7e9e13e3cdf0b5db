/- The law 'PlannerReverses' holds at every input that holds at most 1048576 values and letters: the call returns true, and each argument reads behind the call as it read before. The library's table of bit positions is tied to the program's text. -/
import Derived.Test.YtngdgnolkilheaaGreatDoorLaw9
import Derived.Test.YtngdgnolkilheaaGreatDoorJF
import Derived.Test.YtngdgnolkilheaaGreatDoorCards
import Derived.Test.YtngdgnolkilheaaGreatDoorTie
import Derived.SevenTiedAt
namespace Go.Proofs.YtngdgnolkilheaaGreatDoor.plannerReverses
open Go Go.Ex Go.ChangeShapes Go.WideShapes Go.ChangeAt Go.RowKit
noncomputable def rawFs : Array Field := match Tryz.prog.underlying 28 with
  | some (.struct fs) => fs
  | _ => #[]
noncomputable def rawTy : RawTy Tryz.prog 28 :=
  ⟨fun i => rawFs.getD i.val default, 5, 5, 25, by kernel_rfl, by kernel_rfl, ⟨by kernel_rfl, by kernel_rfl, by kernel_rfl, by kernel_rfl, by kernel_rfl⟩, ⟨by kernel_rfl, by kernel_rfl, by kernel_rfl, by kernel_rfl, by kernel_rfl⟩, ⟨by kernel_rfl, by kernel_rfl, by kernel_rfl, by kernel_rfl, by kernel_rfl⟩, ⟨by kernel_rfl, by kernel_rfl, by kernel_rfl⟩, ⟨by kernel_rfl, by kernel_rfl, by kernel_rfl⟩⟩
noncomputable def raw31Fs : Array Field := match Tryz.prog.underlying 32 with
  | some (.struct fs) => fs
  | _ => #[]
theorem raw31F0 : (raw31Fs.getD (0 : Fin 3).val default).type = 28 := by kernel_rfl
noncomputable def raw31Ty : Raw31Ty Tryz.prog 32 :=
  ⟨fun i => raw31Fs.getD i.val default, (congrArg (RawTy Tryz.prog) raw31F0.symm).mp rawTy, 5, 25, by kernel_rfl, by kernel_rfl, ⟨by kernel_rfl, by kernel_rfl, by kernel_rfl⟩, ⟨by kernel_rfl, by kernel_rfl⟩, ⟨by kernel_rfl, by kernel_rfl⟩, ⟨by kernel_rfl, by kernel_rfl⟩, ⟨by kernel_rfl, by kernel_rfl⟩⟩
theorem cellsU8 : Tryz.prog.cellsOf 5 = 1 := by kernel_rfl
theorem cellsT : Tryz.prog.cellsOf 378 = 64 := by kernel_rfl
theorem gTab : Tryz.prog.globalNamed "math/bits.deBruijn64tab" = some 0 := by kernel_rfl
theorem gTabType : (Tryz.prog.globals[0]?).map (·.type) = some 378 := by kernel_rfl
theorem table {W : World} (h : laidMetH Tryz.prog Rows.plannerReversesUptoRow.laid W) : Lib.TabIs Tryz.prog W "math/bits.deBruijn64tab" .u8 (tab64.map fun n : Nat => (n : Int)) :=
  Lib.tabIs_of_head (rest := _) gTab gTabType Tryz.underlying378 Tryz.underlying5 cellsU8 cellsT h
theorem tabW {W : World} (h : laidMetH Tryz.prog Rows.plannerReversesUptoRow.laid W) : Tab (Ex.whole W) := fun i hi => by
  rw [gcell_whole, (table h).cell gTab i (by simpa [tab64] using hi)]
  congr 2
  simp only [List.getD_eq_getElem?_getD, List.getElem?_map]
  rw [List.getElem?_eq_getElem (by exact hi)]; rfl
/-- A world for the witness: the settled one, the listed variables laid. -/
def put (cs : Array Value) : Obj → Obj
  | .cells _ t frozen => .cells cs t frozen
  | o => o
noncomputable def laidWorld (os : Os) : World :=
  { World.holding Tryz.prog os ⟨#[], #[], []⟩ with heap := (World.holding Tryz.prog os ⟨#[], #[], []⟩).heap.modify 0 (put #[.int .u8 0, .int .u8 1, .int .u8 56, .int .u8 2, .int .u8 57, .int .u8 49, .int .u8 28, .int .u8 3, .int .u8 61, .int .u8 58, .int .u8 42, .int .u8 50, .int .u8 38, .int .u8 29, .int .u8 17, .int .u8 4, .int .u8 62, .int .u8 47, .int .u8 59, .int .u8 36, .int .u8 45, .int .u8 43, .int .u8 51, .int .u8 22, .int .u8 53, .int .u8 39, .int .u8 33, .int .u8 30, .int .u8 24, .int .u8 18, .int .u8 12, .int .u8 5, .int .u8 63, .int .u8 55, .int .u8 48, .int .u8 27, .int .u8 60, .int .u8 41, .int .u8 37, .int .u8 16, .int .u8 46, .int .u8 35, .int .u8 44, .int .u8 21, .int .u8 52, .int .u8 32, .int .u8 23, .int .u8 11, .int .u8 54, .int .u8 26, .int .u8 40, .int .u8 15, .int .u8 34, .int .u8 20, .int .u8 31, .int .u8 10, .int .u8 25, .int .u8 14, .int .u8 19, .int .u8 9, .int .u8 13, .int .u8 8, .int .u8 7, .int .u8 6]) }
theorem laid_met (os : Os) : laidMet Tryz.prog Rows.plannerReversesUptoRow.laid ((laidWorld os).forCall (fun _ _ => 0) ⟨#[], #[.agg #[.int .u8 0, .int .u8 0, .int .u8 0, .int .u8 0, .int .u8 0, .int .u8 0, .int .u8 0, .int .u8 0, .int .u8 0, .int .u8 0, .int .u32 0, .int .u16 0, .int .u16 0, .int .u16 0, .slice none 0 0, .slice none 0 0]], []⟩).memory :=
  laidMet_of_run' 8 (by kernel_rfl) (by kernel_rfl)
theorem reads (os : Os) {H : Type} (enc : TypeId × Value → H) : ∃ places, DataW.whole enc Tryz.prog ((laidWorld os).forCall (fun _ _ => 0) ⟨#[], #[.agg #[.int .u8 0, .int .u8 0, .int .u8 0, .int .u8 0, .int .u8 0, .int .u8 0, .int .u8 0, .int .u8 0, .int .u8 0, .int .u8 0, .int .u32 0, .int .u16 0, .int .u16 0, .int .u16 0, .slice none 0 0, .slice none 0 0]], []⟩).memory Tryz.f9.params.toList Rows.plannerReversesSpec.vars false (#[.agg #[.int .u8 0, .int .u8 0, .int .u8 0, .int .u8 0, .int .u8 0, .int .u8 0, .int .u8 0, .int .u8 0, .int .u8 0, .int .u8 0, .int .u32 0, .int .u16 0, .int .u16 0, .int .u16 0, .slice none 0 0, .slice none 0 0]] : Array Value).toList 8 = some ([.agg [.agg [.lit (.int .u8 0), .agg [.lit (.int .u8 0), .lit (.int .u8 0), .lit (.int .u8 0), .lit (.int .u8 0)], .agg [.lit (.int .u8 0), .lit (.int .u8 0), .lit (.int .u8 0), .lit (.int .u8 0), .lit (.int .u8 0)], .lit (.int .u32 0), .agg [.lit (.int .u16 0), .lit (.int .u16 0), .lit (.int .u16 0)]], .nil, .nil]], [], places) :=
  ⟨[], by kernel_rfl⟩
set_option maxRecDepth 100000 in
theorem lifted (os : Os) (started : os.Started) (H : Type) (enc : TypeId × Value → H) (F : Stop.Interp) :
    ReturnsInHanded {} Tryz.checked os 9 .any ((Rows.OpenSpec.upto Rows.plannerReversesSpec).preRow enc Tryz.prog Tryz.f9 Rows.plannerReversesUptoRow.domain false Rows.plannerReversesUptoRow.laid) (((Rows.OpenSpec.upto Rows.plannerReversesSpec).at F).post enc Tryz.prog Tryz.f9 false true false false) := by
  obtain ⟨places, hx⟩ := reads os enc
  refine returnsInHanded_of_row (C := Tryz.checked) (s := Rows.OpenSpec.upto Rows.plannerReversesSpec) JF.own started (by kernel_rfl) Tryz.func9
    (witness_row_at (enc := enc) (C := Tryz.checked) false (laidWorld os) #[.agg #[.int .u8 0, .int .u8 0, .int .u8 0, .int .u8 0, .int .u8 0, .int .u8 0, .int .u8 0, .int .u8 0, .int .u8 0, .int .u8 0, .int .u32 0, .int .u16 0, .int .u16 0, .int .u16 0, .slice none 0 0, .slice none 0 0]] rfl (by kernel_rfl) (by kernel_rfl) (by kernel_rfl)
      (OpenSpec.preRow_of_cond 8 hx (by kernel_rfl) (fun k hk => by cases hk; kernel_rfl) (by kernel_rfl) (laid_met os))) ?_
  intro W base args ds gs before hval0 hW _ hcond _ hL hSh _
  have hval : ∀ (j : Nat) t v, Tryz.f9.params[j]? = some t → args[j]? = some v → Value.okWide Tryz.prog W .any base t v := hval0
  have hW' := hW
  obtain ⟨p, q, hA0, hV, rfl, _, _⟩ := hW
  have hA : DataW.TrodAll enc Tryz.prog W 0 (fun _ => true) true Tryz.f9.params.toList args.toList ds p := hA0
  rw [Tryz.params9] at hA hval
  obtain ⟨v0, d0, rfl, rfl, h0⟩ := trodAll_one hA
  obtain ⟨rfl, rfl⟩ := trodVars_none hV
  have hk : Rows.uptoSmall H _ = true := hcond _ rfl
  have hT := tabW hL
  obtain ⟨n0, h0⟩ := h0
  obtain ⟨sz, q0, q1, q2, q3, m0, m1, m2, m3, m4, ed, r0, r1, r2, vw, vq, nw, sf, hed, hr0, hr1, hr2, hnw, hsq, rfl⟩ := raw31_val raw31Ty (hval 0 32 v0 rfl rfl) h0
  obtain ⟨Aw, cw, rfl, _⟩ := id hnw
  obtain ⟨Aq, cq, rfl, _⟩ := id hsq

  refine (law_calls (lrev_ok hT hnw hsq hed hr0 hr1 hr2)).mono fun e W' ⟨he, hg⟩ => ⟨_, he, ?_⟩
  exact post_law (s := Rows.plannerReversesSpec) JF.j2 (by kernel_rfl) rfl Tryz.underlying4 rfl hW' rfl hg
theorem j1 : Rows.plannerReversesUptoRow.wf (OpenSpec.ofChange (Rows.OpenSpec.upto Rows.plannerReversesSpec).bare) = true := by kernel_rfl
theorem j4 : Tryz.f9.params.all (Tryz.prog.readableRec ·) = true := by kernel_rfl
theorem j5 : namedTie Tryz.prog Rows.plannerReversesUptoRow.named (Rows.OpenSpec.upto Rows.plannerReversesSpec).bare.vars = true := by kernel_rfl
theorem j6 : (Rows.plannerReversesUptoRow.stops == []) = true := by kernel_rfl
theorem j8 : (Rows.plannerReversesUptoRow.knobs == []) = true := by kernel_rfl
theorem j10 : (Rows.plannerReversesUptoRow.inPlace == Tryz.prog.inPlace 9) = true := by kernel_rfl
theorem j11 : (Rows.plannerReversesUptoRow.unfollowed == Tryz.prog.unfollowed 9) = true := by kernel_rfl
theorem j12 : (Rows.plannerReversesUptoRow.recurses == Tryz.prog.recurses 9) = true := by kernel_rfl
theorem j13 : (Rows.plannerReversesUptoRow.named == Tryz.prog.varsNamed 9) = true := by kernel_rfl
theorem j14 : (Rows.plannerReversesUptoRow.maps == (Tryz.f9.params.toList ++ (Rows.OpenSpec.upto Rows.plannerReversesSpec).bare.plain.varTypes Tryz.prog).any (Tryz.prog.mapsRec ·)) = true := by kernel_rfl
theorem j15 : (Rows.plannerReversesUptoRow.ifaces == (Tryz.f9.params.toList ++ (Rows.OpenSpec.upto Rows.plannerReversesSpec).bare.plain.varTypes Tryz.prog).any (Tryz.prog.ifacesRec ·)) = true := by kernel_rfl
theorem j16 : (Rows.plannerReversesUptoRow.mapsOut == Tryz.prog.mapsAmong Tryz.f9.resultTypes.toList) = true := by kernel_rfl
theorem j17 : (Rows.plannerReversesUptoRow.loops == (Tryz.f9.params.toList ++ (Rows.OpenSpec.upto Rows.plannerReversesSpec).bare.plain.varTypes Tryz.prog).any (Tryz.prog.loopsFrom ·)) = true := by kernel_rfl
theorem j17b : (Rows.plannerReversesUptoRow.wideKeys == (Tryz.f9.params.toList ++ (Rows.OpenSpec.upto Rows.plannerReversesSpec).bare.plain.varTypes Tryz.prog ++ Tryz.f9.resultTypes.toList).any (Tryz.prog.wideKeysFrom ·)) = true := by kernel_rfl
theorem j18 : (Rows.OpenSpec.upto Rows.plannerReversesSpec).bare.vars.all (Tryz.prog.varReadable ·) = true := by kernel_rfl
theorem j19 : Tryz.f9.resultTypes.all (fun t => Tryz.prog.readableRec t && decide (t < Tryz.prog.types.size)) = true := by kernel_rfl
theorem j20 : (Rows.plannerReversesUptoRow.ifacesOut == Tryz.f9.resultTypes.toList.any (Tryz.prog.ifacesRec ·)) = true := by kernel_rfl
theorem j21 : (Rows.plannerReversesUptoRow.loopsOut == Tryz.f9.resultTypes.toList.any (Tryz.prog.loopsFrom ·)) = true := by kernel_rfl
theorem j23 : Rows.plannerReversesUptoRow.shortTexts.isNone = true := by kernel_rfl
theorem j25 : (Rows.plannerReversesUptoRow.kinds == (if Rows.plannerReversesUptoRow.domain.isEmpty then [] else Tryz.f9.params.toList.map fun t => match Tryz.prog.underlying t with | some (.int k) => some k | _ => none)) = true := by kernel_rfl
theorem j26 : (Rows.plannerReversesUptoRow.pinned == Rows.plannerReversesUptoRow.pinnedBy) = true := by kernel_rfl
theorem j27 : (Rows.plannerReversesUptoRow.veiled == (Tryz.f9.params.toList ++ (Rows.OpenSpec.upto Rows.plannerReversesSpec).bare.plain.varTypes Tryz.prog ++ Tryz.f9.resultTypes.toList).any (Tryz.prog.veiledRec ·)) = true := by kernel_rfl
theorem j28 : Rows.plannerReversesUptoRow.veiledFits Tryz.prog Tryz.f9.params.toList (Tryz.f9.params.toList ++ (Rows.OpenSpec.upto Rows.plannerReversesSpec).bare.plain.varTypes Tryz.prog ++ Tryz.f9.resultTypes.toList) = true := by kernel_rfl
theorem j22 : (Rows.plannerReversesUptoRow.plainKeys == Tryz.prog.plainKeys) = true := by
  rw [show Rows.plannerReversesUptoRow.plainKeys = Rows.plannerBestIsSafeUptoRow.plainKeys by kernel_rfl]; exact JF.j22
theorem j24b : (Rows.plannerReversesUptoRow.lifted == Tryz.prog.liftsFinal) = true := by
  rw [show Rows.plannerReversesUptoRow.lifted = Rows.plannerBestIsSafeUptoRow.lifted by kernel_rfl]; exact JF.j24b
theorem j24c : (Tryz.prog.make == some Rows.plannerReversesUptoRow.make) = true := by
  rw [show Rows.plannerReversesUptoRow.make = Rows.plannerBestIsSafeUptoRow.make by kernel_rfl]; exact JF.j24c
set_option maxRecDepth 10000 in
theorem closed : joinedFacts Tryz.prog 9 Tryz.f9 (Rows.OpenSpec.upto Rows.plannerReversesSpec).bare Rows.plannerReversesUptoRow = true := by
  unfold joinedFacts
  simp only [Bool.and_eq_true]
  exact ⟨⟨⟨⟨⟨⟨⟨⟨⟨⟨⟨⟨⟨⟨⟨⟨⟨⟨⟨⟨⟨⟨⟨⟨⟨⟨⟨⟨⟨⟨⟨j1, JF.j2⟩, JF.j3⟩, j4⟩, j5⟩, j6⟩, JF.j7⟩, j8⟩, JF.j9⟩, j10⟩, j11⟩, j12⟩, j13⟩, j14⟩, j15⟩, j16⟩, j17⟩, j17b⟩, j18⟩, j19⟩, j20⟩, j21⟩, j22⟩, j23⟩, JF.j23b⟩, JF.j24⟩, j24b⟩, j24c⟩, j25⟩, j26⟩, j27⟩, j28⟩
theorem named : Tryz.prog.funcNamed "univocal/univocallaw31.PlannerReverses" = some 9 := by kernel_rfl
theorem inst : Tryz.f9.isInstance Tryz.prog Rows.plannerReversesUptoRow.origin Rows.plannerReversesUptoRow.targs := of_decide_eq_true (by kernel_rfl)
theorem wraps : Tryz.f9.isWrapper Tryz.prog Rows.plannerReversesUptoRow.wrapper Rows.plannerReversesUptoRow.mainSum := by
  unfold Func.isWrapper; first | (rw [if_pos (by decide +kernel)]; kernel_rfl) | (rw [if_neg (by decide +kernel)]; exact ⟨rfl, rfl⟩)
theorem said : Rows.PlannerReversesUptoSaid :=
  OpenClaim.holds_of_cond 9 Tryz.f9 rfl rfl rfl rfl rfl rfl rfl ⟨rfl, rfl, rfl, rfl, rfl⟩ rfl rfl rfl rfl rfl named Tryz.func9 closed inst wraps
    (fun os started H enc _ F => by rw [OpenClaim.pre_eq_preRow]; exact lifted os started H enc F)
theorem plain (f : FuncId) (fn : Func) (hf : Tryz.pinned.checked.prog.funcNamed "univocal/univocallaw31.PlannerReverses" = some f) (hfn : Tryz.pinned.checked.prog.funcs[f]? = some fn) :
    false = Tryz.pinned.checked.prog.looks [] ∧ ∀ (j : Nat) t, fn.params[j]? = some t → Tryz.pinned.checked.prog.wantsStandIn t = false := by
  obtain rfl : f = 9 := Option.some.inj ((show Tryz.pinned.checked.prog.funcNamed "univocal/univocallaw31.PlannerReverses" = some 9 from named).symm.trans hf) |>.symm
  obtain rfl : fn = Tryz.f9 := (Option.some.inj (Tryz.func9.symm.trans hfn)).symm
  refine ⟨by kernel_rfl, fun j t ht => ?_⟩
  rw [Tryz.params9] at ht
  have hm := Array.mem_of_getElem? ht
  simp only [List.mem_toArray, List.mem_cons, List.not_mem_nil, or_false] at hm
  rcases hm with rfl
  all_goals exact (show Tryz.prog.wantsStandIn _ = false by kernel_rfl)
theorem proved : Rows.PlannerReversesUptoCardSaid :=
  Claim7.holds_tied_plain_at .later [] _ _ _ _ said (fun _ h => by cases h) JF.wT (fun _ h => by cases h) plannerReversesUpto_row_tie rfl ⟨rfl, rfl⟩ JF.mT rfl plain JF.gT
end Go.Proofs.YtngdgnolkilheaaGreatDoor.plannerReverses
