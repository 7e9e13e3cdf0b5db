/- The law 'FleetEdges' holds at every input that holds at most 1048576 values and letters: the call returns true, and each argument reads behind the call as it read before. The library's table of bit positions is tied to the program's text. -/
import Derived.Test.YtkeplgdofphnkaaGreatDoorLaw7
import Derived.Test.YtkeplgdofphnkaaGreatDoorJF
import Derived.Test.YtkeplgdofphnkaaGreatDoorCards
import Derived.Test.YtkeplgdofphnkaaGreatDoorTie
import Derived.SevenTiedAt
namespace Go.Proofs.YtkeplgdofphnkaaGreatDoor.fleetEdges
open Go Go.Ex Go.ChangeShapes Go.WideShapes Go.ChangeAt Go.RowKit
noncomputable def rawFs : Array Field := match Tryz.prog.underlying 28 with
  | some (.struct fs) => fs
  | _ => #[]
noncomputable def rawTy : RawTy Tryz.prog 28 :=
  ⟨fun i => rawFs.getD i.val default, 5, 5, 25, by kernel_rfl, by kernel_rfl, ⟨by kernel_rfl, by kernel_rfl, by kernel_rfl, by kernel_rfl, by kernel_rfl⟩, ⟨by kernel_rfl, by kernel_rfl, by kernel_rfl, by kernel_rfl, by kernel_rfl⟩, ⟨by kernel_rfl, by kernel_rfl, by kernel_rfl, by kernel_rfl, by kernel_rfl⟩, ⟨by kernel_rfl, by kernel_rfl, by kernel_rfl⟩, ⟨by kernel_rfl, by kernel_rfl, by kernel_rfl⟩⟩
theorem cellsU8 : Tryz.prog.cellsOf 5 = 1 := by kernel_rfl
theorem cellsT : Tryz.prog.cellsOf 354 = 64 := by kernel_rfl
theorem gTab : Tryz.prog.globalNamed "math/bits.deBruijn64tab" = some 0 := by kernel_rfl
theorem gTabType : (Tryz.prog.globals[0]?).map (·.type) = some 354 := by kernel_rfl
theorem table {W : World} (h : laidMetH Tryz.prog Rows.fleetEdgesUptoRow.laid W) : Lib.TabIs Tryz.prog W "math/bits.deBruijn64tab" .u8 (tab64.map fun n : Nat => (n : Int)) :=
  Lib.tabIs_of_head (rest := _) gTab gTabType Tryz.underlying354 Tryz.underlying5 cellsU8 cellsT h
theorem tabW {W : World} (h : laidMetH Tryz.prog Rows.fleetEdgesUptoRow.laid W) : Tab (Ex.whole W) := fun i hi => by
  rw [gcell_whole, (table h).cell gTab i (by simpa [tab64] using hi)]
  congr 2
  simp only [List.getD_eq_getElem?_getD, List.getElem?_map]
  rw [List.getElem?_eq_getElem (by exact hi)]; rfl
/-- A world for the witness: the settled one, the listed variables laid. -/
def put (cs : Array Value) : Obj → Obj
  | .cells _ t frozen => .cells cs t frozen
  | o => o
noncomputable def laidWorld (os : Os) : World :=
  { World.holding Tryz.prog os ⟨#[], #[], []⟩ with heap := (World.holding Tryz.prog os ⟨#[], #[], []⟩).heap.modify 0 (put #[.int .u8 0, .int .u8 1, .int .u8 56, .int .u8 2, .int .u8 57, .int .u8 49, .int .u8 28, .int .u8 3, .int .u8 61, .int .u8 58, .int .u8 42, .int .u8 50, .int .u8 38, .int .u8 29, .int .u8 17, .int .u8 4, .int .u8 62, .int .u8 47, .int .u8 59, .int .u8 36, .int .u8 45, .int .u8 43, .int .u8 51, .int .u8 22, .int .u8 53, .int .u8 39, .int .u8 33, .int .u8 30, .int .u8 24, .int .u8 18, .int .u8 12, .int .u8 5, .int .u8 63, .int .u8 55, .int .u8 48, .int .u8 27, .int .u8 60, .int .u8 41, .int .u8 37, .int .u8 16, .int .u8 46, .int .u8 35, .int .u8 44, .int .u8 21, .int .u8 52, .int .u8 32, .int .u8 23, .int .u8 11, .int .u8 54, .int .u8 26, .int .u8 40, .int .u8 15, .int .u8 34, .int .u8 20, .int .u8 31, .int .u8 10, .int .u8 25, .int .u8 14, .int .u8 19, .int .u8 9, .int .u8 13, .int .u8 8, .int .u8 7, .int .u8 6]) }
theorem laid_met (os : Os) : laidMet Tryz.prog Rows.fleetEdgesUptoRow.laid ((laidWorld os).forCall (fun _ _ => 0) ⟨#[], #[.agg #[.int .u8 0, .int .u8 0, .int .u8 0, .int .u8 0, .int .u8 0, .int .u8 0, .int .u8 0, .int .u8 0, .int .u8 0, .int .u8 0, .int .u32 0, .int .u16 0, .int .u16 0, .int .u16 0], .int .u8 0, .agg #[.int .u8 0, .int .u8 0]], []⟩).memory :=
  laidMet_of_run' 8 (by kernel_rfl) (by kernel_rfl)
theorem reads (os : Os) {H : Type} (enc : TypeId × Value → H) : ∃ places, DataW.whole enc Tryz.prog ((laidWorld os).forCall (fun _ _ => 0) ⟨#[], #[.agg #[.int .u8 0, .int .u8 0, .int .u8 0, .int .u8 0, .int .u8 0, .int .u8 0, .int .u8 0, .int .u8 0, .int .u8 0, .int .u8 0, .int .u32 0, .int .u16 0, .int .u16 0, .int .u16 0], .int .u8 0, .agg #[.int .u8 0, .int .u8 0]], []⟩).memory Tryz.f7.params.toList Rows.fleetEdgesSpec.vars false (#[.agg #[.int .u8 0, .int .u8 0, .int .u8 0, .int .u8 0, .int .u8 0, .int .u8 0, .int .u8 0, .int .u8 0, .int .u8 0, .int .u8 0, .int .u32 0, .int .u16 0, .int .u16 0, .int .u16 0], .int .u8 0, .agg #[.int .u8 0, .int .u8 0]] : Array Value).toList 8 = some ([.agg [.lit (.int .u8 0), .agg [.lit (.int .u8 0), .lit (.int .u8 0), .lit (.int .u8 0), .lit (.int .u8 0)], .agg [.lit (.int .u8 0), .lit (.int .u8 0), .lit (.int .u8 0), .lit (.int .u8 0), .lit (.int .u8 0)], .lit (.int .u32 0), .agg [.lit (.int .u16 0), .lit (.int .u16 0), .lit (.int .u16 0)]], .lit (.int .u8 0), .agg [.lit (.int .u8 0), .lit (.int .u8 0)]], [], places) :=
  ⟨[], by kernel_rfl⟩
set_option maxRecDepth 100000 in
theorem lifted (os : Os) (started : os.Started) (H : Type) (enc : TypeId × Value → H) (F : Stop.Interp) :
    ReturnsInHanded {} Tryz.checked os 7 .any ((Rows.OpenSpec.upto Rows.fleetEdgesSpec).preRow enc Tryz.prog Tryz.f7 Rows.fleetEdgesUptoRow.domain false Rows.fleetEdgesUptoRow.laid) (((Rows.OpenSpec.upto Rows.fleetEdgesSpec).at F).post enc Tryz.prog Tryz.f7 false true false false) := by
  obtain ⟨places, hx⟩ := reads os enc
  refine returnsInHanded_of_row (C := Tryz.checked) (s := Rows.OpenSpec.upto Rows.fleetEdgesSpec) JF.own started (by kernel_rfl) Tryz.func7
    (witness_row_at (enc := enc) (C := Tryz.checked) false (laidWorld os) #[.agg #[.int .u8 0, .int .u8 0, .int .u8 0, .int .u8 0, .int .u8 0, .int .u8 0, .int .u8 0, .int .u8 0, .int .u8 0, .int .u8 0, .int .u32 0, .int .u16 0, .int .u16 0, .int .u16 0], .int .u8 0, .agg #[.int .u8 0, .int .u8 0]] rfl (by kernel_rfl) (by kernel_rfl) (by kernel_rfl)
      (OpenSpec.preRow_of_cond 8 hx (by kernel_rfl) (fun k hk => by cases hk; kernel_rfl) (by kernel_rfl) (laid_met os))) ?_
  intro W base args ds gs before hval0 hW _ hcond _ hL hSh _
  have hval : ∀ (j : Nat) t v, Tryz.f7.params[j]? = some t → args[j]? = some v → Value.okWide Tryz.prog W .any base t v := hval0
  have hW' := hW
  obtain ⟨p, q, hA0, hV, rfl, _, _⟩ := hW
  have hA : DataW.TrodAll enc Tryz.prog W 0 (fun _ => true) true Tryz.f7.params.toList args.toList ds p := hA0
  rw [Tryz.params7] at hA hval
  obtain ⟨v0, v1, v2, d0, d1, d2, p0, p1, p2, rfl, rfl, rfl, h0, h1, h2⟩ := trodAll_three hA
  obtain ⟨rfl, rfl⟩ := trodVars_none hV
  have hk : Rows.uptoSmall H _ = true := hcond _ rfl
  have hT := tabW hL
  obtain ⟨n0, h0⟩ := h0
  obtain ⟨sz, q0, q1, q2, q3, m0, m1, m2, m3, m4, ed, r0, r1, r2, hed, hr0, hr1, hr2, rfl⟩ := raw_val rawTy (hval 0 28 v0 rfl rfl) h0
  obtain ⟨z1, rfl, _, _, w1⟩ := open_int Tryz.underlying5 (hval 1 5 v1 rfl rfl) h1
  obtain ⟨n2, h2⟩ := h2
  obtain ⟨za2, zb2, rfl, wa2, wb2⟩ := pair_val Tryz.underlying63 Tryz.underlying5 (by kernel_rfl) (by kernel_rfl) (hval 2 63 v2 rfl rfl) h2
  obtain ⟨y1, rfl⟩ := u8_of w1
  obtain ⟨x2, rfl⟩ := u8_of wa2
  obtain ⟨y2, rfl⟩ := u8_of wb2
  refine (law_calls (ledg_ok (a := y1) (b := x2) (c := y2) hT hed hr0 hr1 hr2)).mono fun e W' ⟨he, hg⟩ => ⟨_, he, ?_⟩
  exact post_law (s := Rows.fleetEdgesSpec) JF.j2 (by kernel_rfl) rfl Tryz.underlying4 rfl hW' rfl hg
theorem j1 : Rows.fleetEdgesUptoRow.wf (OpenSpec.ofChange (Rows.OpenSpec.upto Rows.fleetEdgesSpec).bare) = true := by kernel_rfl
theorem j4 : Tryz.f7.params.all (Tryz.prog.readableRec ·) = true := by kernel_rfl
theorem j5 : namedTie Tryz.prog Rows.fleetEdgesUptoRow.named (Rows.OpenSpec.upto Rows.fleetEdgesSpec).bare.vars = true := by kernel_rfl
theorem j6 : (Rows.fleetEdgesUptoRow.stops == []) = true := by kernel_rfl
theorem j8 : (Rows.fleetEdgesUptoRow.knobs == []) = true := by kernel_rfl
theorem j10 : (Rows.fleetEdgesUptoRow.inPlace == Tryz.prog.inPlace 7) = true := by kernel_rfl
theorem j11 : (Rows.fleetEdgesUptoRow.unfollowed == Tryz.prog.unfollowed 7) = true := by kernel_rfl
theorem j12 : (Rows.fleetEdgesUptoRow.recurses == Tryz.prog.recurses 7) = true := by kernel_rfl
theorem j13 : (Rows.fleetEdgesUptoRow.named == Tryz.prog.varsNamed 7) = true := by kernel_rfl
theorem j14 : (Rows.fleetEdgesUptoRow.maps == (Tryz.f7.params.toList ++ (Rows.OpenSpec.upto Rows.fleetEdgesSpec).bare.plain.varTypes Tryz.prog).any (Tryz.prog.mapsRec ·)) = true := by kernel_rfl
theorem j15 : (Rows.fleetEdgesUptoRow.ifaces == (Tryz.f7.params.toList ++ (Rows.OpenSpec.upto Rows.fleetEdgesSpec).bare.plain.varTypes Tryz.prog).any (Tryz.prog.ifacesRec ·)) = true := by kernel_rfl
theorem j16 : (Rows.fleetEdgesUptoRow.mapsOut == Tryz.prog.mapsAmong Tryz.f7.resultTypes.toList) = true := by kernel_rfl
theorem j17 : (Rows.fleetEdgesUptoRow.loops == (Tryz.f7.params.toList ++ (Rows.OpenSpec.upto Rows.fleetEdgesSpec).bare.plain.varTypes Tryz.prog).any (Tryz.prog.loopsFrom ·)) = true := by kernel_rfl
theorem j17b : (Rows.fleetEdgesUptoRow.wideKeys == (Tryz.f7.params.toList ++ (Rows.OpenSpec.upto Rows.fleetEdgesSpec).bare.plain.varTypes Tryz.prog ++ Tryz.f7.resultTypes.toList).any (Tryz.prog.wideKeysFrom ·)) = true := by kernel_rfl
theorem j18 : (Rows.OpenSpec.upto Rows.fleetEdgesSpec).bare.vars.all (Tryz.prog.varReadable ·) = true := by kernel_rfl
theorem j19 : Tryz.f7.resultTypes.all (fun t => Tryz.prog.readableRec t && decide (t < Tryz.prog.types.size)) = true := by kernel_rfl
theorem j20 : (Rows.fleetEdgesUptoRow.ifacesOut == Tryz.f7.resultTypes.toList.any (Tryz.prog.ifacesRec ·)) = true := by kernel_rfl
theorem j21 : (Rows.fleetEdgesUptoRow.loopsOut == Tryz.f7.resultTypes.toList.any (Tryz.prog.loopsFrom ·)) = true := by kernel_rfl
theorem j23 : Rows.fleetEdgesUptoRow.shortTexts.isNone = true := by kernel_rfl
theorem j25 : (Rows.fleetEdgesUptoRow.kinds == (if Rows.fleetEdgesUptoRow.domain.isEmpty then [] else Tryz.f7.params.toList.map fun t => match Tryz.prog.underlying t with | some (.int k) => some k | _ => none)) = true := by kernel_rfl
theorem j26 : (Rows.fleetEdgesUptoRow.pinned == Rows.fleetEdgesUptoRow.pinnedBy) = true := by kernel_rfl
theorem j27 : (Rows.fleetEdgesUptoRow.veiled == (Tryz.f7.params.toList ++ (Rows.OpenSpec.upto Rows.fleetEdgesSpec).bare.plain.varTypes Tryz.prog ++ Tryz.f7.resultTypes.toList).any (Tryz.prog.veiledRec ·)) = true := by kernel_rfl
theorem j28 : Rows.fleetEdgesUptoRow.veiledFits Tryz.prog Tryz.f7.params.toList (Tryz.f7.params.toList ++ (Rows.OpenSpec.upto Rows.fleetEdgesSpec).bare.plain.varTypes Tryz.prog ++ Tryz.f7.resultTypes.toList) = true := by kernel_rfl
theorem j22 : (Rows.fleetEdgesUptoRow.plainKeys == Tryz.prog.plainKeys) = true := by
  rw [show Rows.fleetEdgesUptoRow.plainKeys = Rows.fleetPathsUptoRow.plainKeys by kernel_rfl]; exact JF.j22
theorem j24b : (Rows.fleetEdgesUptoRow.lifted == Tryz.prog.liftsFinal) = true := by
  rw [show Rows.fleetEdgesUptoRow.lifted = Rows.fleetPathsUptoRow.lifted by kernel_rfl]; exact JF.j24b
theorem j24c : (Tryz.prog.make == some Rows.fleetEdgesUptoRow.make) = true := by
  rw [show Rows.fleetEdgesUptoRow.make = Rows.fleetPathsUptoRow.make by kernel_rfl]; exact JF.j24c
set_option maxRecDepth 10000 in
theorem closed : joinedFacts Tryz.prog 7 Tryz.f7 (Rows.OpenSpec.upto Rows.fleetEdgesSpec).bare Rows.fleetEdgesUptoRow = true := by
  unfold joinedFacts
  simp only [Bool.and_eq_true]
  exact ⟨⟨⟨⟨⟨⟨⟨⟨⟨⟨⟨⟨⟨⟨⟨⟨⟨⟨⟨⟨⟨⟨⟨⟨⟨⟨⟨⟨⟨⟨⟨j1, JF.j2⟩, JF.j3⟩, j4⟩, j5⟩, j6⟩, JF.j7⟩, j8⟩, JF.j9⟩, j10⟩, j11⟩, j12⟩, j13⟩, j14⟩, j15⟩, j16⟩, j17⟩, j17b⟩, j18⟩, j19⟩, j20⟩, j21⟩, j22⟩, j23⟩, JF.j23b⟩, JF.j24⟩, j24b⟩, j24c⟩, j25⟩, j26⟩, j27⟩, j28⟩
theorem named : Tryz.prog.funcNamed "univocal/univocallaw30.FleetEdges" = some 7 := by kernel_rfl
theorem inst : Tryz.f7.isInstance Tryz.prog Rows.fleetEdgesUptoRow.origin Rows.fleetEdgesUptoRow.targs := of_decide_eq_true (by kernel_rfl)
theorem wraps : Tryz.f7.isWrapper Tryz.prog Rows.fleetEdgesUptoRow.wrapper Rows.fleetEdgesUptoRow.mainSum := by
  unfold Func.isWrapper; first | (rw [if_pos (by decide +kernel)]; kernel_rfl) | (rw [if_neg (by decide +kernel)]; exact ⟨rfl, rfl⟩)
theorem said : Rows.FleetEdgesUptoSaid :=
  OpenClaim.holds_of_cond 7 Tryz.f7 rfl rfl rfl rfl rfl rfl rfl ⟨rfl, rfl, rfl, rfl, rfl⟩ rfl rfl rfl rfl rfl named Tryz.func7 closed inst wraps
    (fun os started H enc _ F => by rw [OpenClaim.pre_eq_preRow]; exact lifted os started H enc F)
theorem plain (f : FuncId) (fn : Func) (hf : Tryz.pinned.checked.prog.funcNamed "univocal/univocallaw30.FleetEdges" = some f) (hfn : Tryz.pinned.checked.prog.funcs[f]? = some fn) :
    false = Tryz.pinned.checked.prog.looks [] ∧ ∀ (j : Nat) t, fn.params[j]? = some t → Tryz.pinned.checked.prog.wantsStandIn t = false := by
  obtain rfl : f = 7 := Option.some.inj ((show Tryz.pinned.checked.prog.funcNamed "univocal/univocallaw30.FleetEdges" = some 7 from named).symm.trans hf) |>.symm
  obtain rfl : fn = Tryz.f7 := (Option.some.inj (Tryz.func7.symm.trans hfn)).symm
  refine ⟨by kernel_rfl, fun j t ht => ?_⟩
  rw [Tryz.params7] at ht
  have hm := Array.mem_of_getElem? ht
  simp only [List.mem_toArray, List.mem_cons, List.not_mem_nil, or_false] at hm
  rcases hm with rfl | rfl | rfl
  all_goals exact (show Tryz.prog.wantsStandIn _ = false by kernel_rfl)
theorem proved : Rows.FleetEdgesUptoCardSaid :=
  Claim7.holds_tied_plain_at .later [] _ _ _ _ said (fun _ h => by cases h) (by kernel_rfl) (fun _ h => by cases h) fleetEdgesUpto_row_tie rfl ⟨rfl, rfl⟩ (by kernel_rfl) rfl plain (by kernel_rfl)
end Go.Proofs.YtkeplgdofphnkaaGreatDoor.fleetEdges
