/- The law 'ScriptLinesConcatenate' holds at every input that holds at most 1048576 values and letters: the call returns true, and each argument reads behind the call as it read before. The library's table of powers of ten is tied to the program's text. -/
import Derived.Test.YtcnljflihhggiaaGreatDoorExRowL
import Derived.Test.YtcnljflihhggiaaGreatDoorExBulk
import Derived.Test.YtcnljflihhggiaaGreatDoorEvRow
import Derived.Test.YtcnljflihhggiaaGreatDoorLaw9
import Derived.Test.YtcnljflihhggiaaGreatDoorJF
import Derived.Test.YtcnljflihhggiaaGreatDoorCards
import Derived.Test.YtcnljflihhggiaaGreatDoorTie
import Derived.SevenTiedAt
namespace Go.Proofs.YtcnljflihhggiaaGreatDoor.scriptLinesConcatenate
open Go Go.Ex Go.ChangeShapes Go.WideShapes Go.ChangeAt Go.RowKit
noncomputable def evFs : Array Field := match Tryz.prog.underlying 36 with
  | some (.struct fs) => fs
  | _ => #[]
noncomputable def evTy : EvRowTy Tryz.prog 36 :=
  ⟨fun i => evFs.getD i.val default, 5, by kernel_rfl, by kernel_rfl, ⟨by kernel_rfl, by kernel_rfl, by kernel_rfl, by kernel_rfl⟩, ⟨by kernel_rfl, by kernel_rfl, by kernel_rfl, by kernel_rfl⟩, ⟨by kernel_rfl, by kernel_rfl, by kernel_rfl⟩, by kernel_rfl, by kernel_rfl, by kernel_rfl⟩
theorem cellsU64 : Tryz.prog.cellsOf 112 = 1 := by kernel_rfl
theorem cellsT : Tryz.prog.cellsOf 211 = 20 := by kernel_rfl
theorem gTab : Tryz.prog.globalNamed "internal/strconv.uint64pow10" = some 0 := by kernel_rfl
theorem gTabType : (Tryz.prog.globals[0]?).map (·.type) = some 211 := by kernel_rfl
theorem tailMet {P : Program} {x : String × DataW Unit} {l : List (String × DataW Unit)} {W : World} (h : laidMet P (x :: l) W) : laidMet P l W := by
  obtain ⟨ps, ⟨g', t', cs, fuel, p, q, hg', ht', hvar, hd, htail, rfl⟩, hnd, hc⟩ := h
  exact ⟨q, htail, (List.nodup_append.1 hnd).2.1, fun b off hb => hc b off (List.mem_append_right _ hb)⟩
theorem table {W : World} (h : laidMetH Tryz.prog Rows.scriptLinesConcatenateUptoRow.laid W) : Lib.TabIs Tryz.prog W "internal/strconv.uint64pow10" .u64 Lib.pow10Tab :=
  Lib.tabIs_of_head (rest := _) gTab gTabType Tryz.underlying211 Tryz.underlying112 cellsU64 cellsT (tailMet (tailMet h))
theorem tabW {W : World} (h : laidMetH Tryz.prog Rows.scriptLinesConcatenateUptoRow.laid W) : Tab10 (Ex.whole W) := by
  have ht := table h
  unfold Lib.TabIs World.var? at ht
  rw [gTab] at ht
  simp only [Option.bind_some] at ht
  cases ho : W.heap[0]? with
  | none => rw [ho] at ht; cases ht
  | some o =>
    refine ⟨o, ho, fun w hw => ?_⟩
    unfold Lib.TabIs World.var?
    rw [gTab]
    simp only [Option.bind_some]
    rw [hw, ← ho]; exact ht
/-- A world for the witness: the settled one, the listed variables laid. -/
def put (cs : Array Value) : Obj → Obj
  | .cells _ t frozen => .cells cs t frozen
  | o => o
noncomputable def laidWorld (os : Os) : World :=
  { World.holding Tryz.prog os ⟨#[], #[], []⟩ with heap := (((World.holding Tryz.prog os ⟨#[], #[], []⟩).heap.modify 0 (put #[.int .u64 1, .int .u64 10, .int .u64 100, .int .u64 1000, .int .u64 10000, .int .u64 100000, .int .u64 1000000, .int .u64 10000000, .int .u64 100000000, .int .u64 1000000000, .int .u64 10000000000, .int .u64 100000000000, .int .u64 1000000000000, .int .u64 10000000000000, .int .u64 100000000000000, .int .u64 1000000000000000, .int .u64 10000000000000000, .int .u64 100000000000000000, .int .u64 1000000000000000000, .int .u64 10000000000000000000])).modify 2 (put #[.int .u8 0, .int .u8 1, .int .u8 28, .int .u8 2, .int .u8 29, .int .u8 14, .int .u8 24, .int .u8 3, .int .u8 30, .int .u8 22, .int .u8 20, .int .u8 15, .int .u8 25, .int .u8 17, .int .u8 4, .int .u8 8, .int .u8 31, .int .u8 27, .int .u8 13, .int .u8 23, .int .u8 21, .int .u8 19, .int .u8 16, .int .u8 7, .int .u8 26, .int .u8 12, .int .u8 18, .int .u8 6, .int .u8 11, .int .u8 5, .int .u8 10, .int .u8 9])).modify 3 (put #[.int .u8 0, .int .u8 1, .int .u8 56, .int .u8 2, .int .u8 57, .int .u8 49, .int .u8 28, .int .u8 3, .int .u8 61, .int .u8 58, .int .u8 42, .int .u8 50, .int .u8 38, .int .u8 29, .int .u8 17, .int .u8 4, .int .u8 62, .int .u8 47, .int .u8 59, .int .u8 36, .int .u8 45, .int .u8 43, .int .u8 51, .int .u8 22, .int .u8 53, .int .u8 39, .int .u8 33, .int .u8 30, .int .u8 24, .int .u8 18, .int .u8 12, .int .u8 5, .int .u8 63, .int .u8 55, .int .u8 48, .int .u8 27, .int .u8 60, .int .u8 41, .int .u8 37, .int .u8 16, .int .u8 46, .int .u8 35, .int .u8 44, .int .u8 21, .int .u8 52, .int .u8 32, .int .u8 23, .int .u8 11, .int .u8 54, .int .u8 26, .int .u8 40, .int .u8 15, .int .u8 34, .int .u8 20, .int .u8 31, .int .u8 10, .int .u8 25, .int .u8 14, .int .u8 19, .int .u8 9, .int .u8 13, .int .u8 8, .int .u8 7, .int .u8 6]) }
theorem laid_met (os : Os) : laidMet Tryz.prog Rows.scriptLinesConcatenateUptoRow.laid ((laidWorld os).forCall (fun _ _ => 0) ⟨#[], #[.slice none 0 0, .slice none 0 0, .int .u8 0], []⟩).memory :=
  laidMet_of_run' 8 (by kernel_rfl) (by kernel_rfl)
theorem reads (os : Os) {H : Type} (enc : TypeId × Value → H) : ∃ places, DataW.whole enc Tryz.prog ((laidWorld os).forCall (fun _ _ => 0) ⟨#[], #[.slice none 0 0, .slice none 0 0, .int .u8 0], []⟩).memory Tryz.f9.params.toList Rows.scriptLinesConcatenateSpec.vars false (#[.slice none 0 0, .slice none 0 0, .int .u8 0] : Array Value).toList 8 = some ([.nil, .nil, .lit (.int .u8 0)], [], places) :=
  ⟨[], by kernel_rfl⟩
set_option maxRecDepth 100000 in
theorem lifted (os : Os) (started : os.Started) (H : Type) (enc : TypeId × Value → H) (F : Stop.Interp) :
    ReturnsInHanded {} Tryz.checked os 9 .any ((Rows.OpenSpec.upto Rows.scriptLinesConcatenateSpec).preRow enc Tryz.prog Tryz.f9 Rows.scriptLinesConcatenateUptoRow.domain false Rows.scriptLinesConcatenateUptoRow.laid) (((Rows.OpenSpec.upto Rows.scriptLinesConcatenateSpec).at F).post enc Tryz.prog Tryz.f9 false true false false) := by
  obtain ⟨places, hx⟩ := reads os enc
  refine returnsInHanded_of_row (C := Tryz.checked) (s := Rows.OpenSpec.upto Rows.scriptLinesConcatenateSpec) JF.own started (by kernel_rfl) Tryz.func9
    (witness_row_at (enc := enc) (C := Tryz.checked) false (laidWorld os) #[.slice none 0 0, .slice none 0 0, .int .u8 0] rfl (by kernel_rfl) (by kernel_rfl) (by kernel_rfl)
      (OpenSpec.preRow_of_cond 8 hx (by kernel_rfl) (fun k hk => by cases hk; kernel_rfl) (by kernel_rfl) (laid_met os))) ?_
  intro W base args ds gs before hval0 hW _ hcond _ hL hSh _
  have hval : ∀ (j : Nat) t v, Tryz.f9.params[j]? = some t → args[j]? = some v → Value.okWide Tryz.prog W .any base t v := hval0
  have hW' := hW
  obtain ⟨p, q, hA0, hV, rfl, _, _⟩ := hW
  have hA : DataW.TrodAll enc Tryz.prog W 0 (fun _ => true) true Tryz.f9.params.toList args.toList ds p := hA0
  rw [Tryz.params9] at hA hval
  obtain ⟨v0, v1, v2, d0, d1, d2, p0, p1, p2, rfl, rfl, rfl, h0, h1, h2⟩ := trodAll_three hA
  obtain ⟨rfl, rfl⟩ := trodVars_none hV
  have hk : Rows.uptoSmall H _ = true := hcond _ rfl
  have hT := tabW hL
  obtain ⟨a0, len0, cap0, rfl⟩ := okWide_slice Tryz.underlying22 (hval 0 22 v0 rfl rfl)
  obtain ⟨n0, h0⟩ := h0
  obtain ⟨a1, len1, cap1, rfl⟩ := okWide_slice Tryz.underlying22 (hval 1 22 v1 rfl rfl)
  obtain ⟨n1, h1⟩ := h1
  obtain ⟨z2, rfl, _, _, w2⟩ := open_int Tryz.underlying5 (hval 2 5 v2 rfl rfl) h2
  obtain ⟨l0, hx0, hp0⟩ := evs_row evTy Tryz.underlying22 h0
  have hn0 : l0.length ≤ 1048576 := Bulk.len_le hp0 (by simp) hk
  obtain ⟨l1, hx1, hp1⟩ := evs_row evTy Tryz.underlying22 h1
  have hn1 : l1.length ≤ 1048576 := Bulk.len_le hp1 (by simp) hk
  obtain ⟨y2, rfl⟩ := u8_of w2
  refine (law_calls (lawCat hx0 hn0 hx1 hn1 (z := y2) hT)).mono fun e W' ⟨he, hg⟩ => ⟨_, he, ?_⟩
  exact post_law (s := Rows.scriptLinesConcatenateSpec) JF.j2 (by kernel_rfl) rfl Tryz.underlying4 rfl hW' rfl hg
theorem j1 : Rows.scriptLinesConcatenateUptoRow.wf (OpenSpec.ofChange (Rows.OpenSpec.upto Rows.scriptLinesConcatenateSpec).bare) = true := by kernel_rfl
theorem j4 : Tryz.f9.params.all (Tryz.prog.readableRec ·) = true := by kernel_rfl
theorem j5 : namedTie Tryz.prog Rows.scriptLinesConcatenateUptoRow.named (Rows.OpenSpec.upto Rows.scriptLinesConcatenateSpec).bare.vars = true := by kernel_rfl
theorem j6 : (Rows.scriptLinesConcatenateUptoRow.stops == []) = true := by kernel_rfl
theorem j8 : (Rows.scriptLinesConcatenateUptoRow.knobs == []) = true := by kernel_rfl
theorem j10 : (Rows.scriptLinesConcatenateUptoRow.inPlace == Tryz.prog.inPlace 9) = true := by kernel_rfl
theorem j11 : (Rows.scriptLinesConcatenateUptoRow.unfollowed == Tryz.prog.unfollowed 9) = true := by kernel_rfl
theorem j12 : (Rows.scriptLinesConcatenateUptoRow.recurses == Tryz.prog.recurses 9) = true := by kernel_rfl
theorem j13 : (Rows.scriptLinesConcatenateUptoRow.named == Tryz.prog.varsNamed 9) = true := by kernel_rfl
theorem j14 : (Rows.scriptLinesConcatenateUptoRow.maps == (Tryz.f9.params.toList ++ (Rows.OpenSpec.upto Rows.scriptLinesConcatenateSpec).bare.plain.varTypes Tryz.prog).any (Tryz.prog.mapsRec ·)) = true := by kernel_rfl
theorem j15 : (Rows.scriptLinesConcatenateUptoRow.ifaces == (Tryz.f9.params.toList ++ (Rows.OpenSpec.upto Rows.scriptLinesConcatenateSpec).bare.plain.varTypes Tryz.prog).any (Tryz.prog.ifacesRec ·)) = true := by kernel_rfl
theorem j16 : (Rows.scriptLinesConcatenateUptoRow.mapsOut == Tryz.prog.mapsAmong Tryz.f9.resultTypes.toList) = true := by kernel_rfl
theorem j17 : (Rows.scriptLinesConcatenateUptoRow.loops == (Tryz.f9.params.toList ++ (Rows.OpenSpec.upto Rows.scriptLinesConcatenateSpec).bare.plain.varTypes Tryz.prog).any (Tryz.prog.loopsFrom ·)) = true := by kernel_rfl
theorem j17b : (Rows.scriptLinesConcatenateUptoRow.wideKeys == (Tryz.f9.params.toList ++ (Rows.OpenSpec.upto Rows.scriptLinesConcatenateSpec).bare.plain.varTypes Tryz.prog ++ Tryz.f9.resultTypes.toList).any (Tryz.prog.wideKeysFrom ·)) = true := by kernel_rfl
theorem j18 : (Rows.OpenSpec.upto Rows.scriptLinesConcatenateSpec).bare.vars.all (Tryz.prog.varReadable ·) = true := by kernel_rfl
theorem j19 : Tryz.f9.resultTypes.all (fun t => Tryz.prog.readableRec t && decide (t < Tryz.prog.types.size)) = true := by kernel_rfl
theorem j20 : (Rows.scriptLinesConcatenateUptoRow.ifacesOut == Tryz.f9.resultTypes.toList.any (Tryz.prog.ifacesRec ·)) = true := by kernel_rfl
theorem j21 : (Rows.scriptLinesConcatenateUptoRow.loopsOut == Tryz.f9.resultTypes.toList.any (Tryz.prog.loopsFrom ·)) = true := by kernel_rfl
theorem j23 : Rows.scriptLinesConcatenateUptoRow.shortTexts.isNone = true := by kernel_rfl
theorem j25 : (Rows.scriptLinesConcatenateUptoRow.kinds == (if Rows.scriptLinesConcatenateUptoRow.domain.isEmpty then [] else Tryz.f9.params.toList.map fun t => match Tryz.prog.underlying t with | some (.int k) => some k | _ => none)) = true := by kernel_rfl
theorem j26 : (Rows.scriptLinesConcatenateUptoRow.pinned == Rows.scriptLinesConcatenateUptoRow.pinnedBy) = true := by kernel_rfl
theorem j27 : (Rows.scriptLinesConcatenateUptoRow.veiled == (Tryz.f9.params.toList ++ (Rows.OpenSpec.upto Rows.scriptLinesConcatenateSpec).bare.plain.varTypes Tryz.prog ++ Tryz.f9.resultTypes.toList).any (Tryz.prog.veiledRec ·)) = true := by kernel_rfl
theorem j28 : Rows.scriptLinesConcatenateUptoRow.veiledFits Tryz.prog Tryz.f9.params.toList (Tryz.f9.params.toList ++ (Rows.OpenSpec.upto Rows.scriptLinesConcatenateSpec).bare.plain.varTypes Tryz.prog ++ Tryz.f9.resultTypes.toList) = true := by kernel_rfl
theorem j22 : (Rows.scriptLinesConcatenateUptoRow.plainKeys == Tryz.prog.plainKeys) = true := by
  rw [show Rows.scriptLinesConcatenateUptoRow.plainKeys = Rows.scriptParseMatchesReferenceUptoRow.plainKeys by kernel_rfl]; exact JF.j22
theorem j24b : (Rows.scriptLinesConcatenateUptoRow.lifted == Tryz.prog.liftsFinal) = true := by
  rw [show Rows.scriptLinesConcatenateUptoRow.lifted = Rows.scriptParseMatchesReferenceUptoRow.lifted by kernel_rfl]; exact JF.j24b
theorem j24c : (Tryz.prog.make == some Rows.scriptLinesConcatenateUptoRow.make) = true := by
  rw [show Rows.scriptLinesConcatenateUptoRow.make = Rows.scriptParseMatchesReferenceUptoRow.make by kernel_rfl]; exact JF.j24c
set_option maxRecDepth 10000 in
theorem closed : joinedFacts Tryz.prog 9 Tryz.f9 (Rows.OpenSpec.upto Rows.scriptLinesConcatenateSpec).bare Rows.scriptLinesConcatenateUptoRow = true := by
  unfold joinedFacts
  simp only [Bool.and_eq_true]
  exact ⟨⟨⟨⟨⟨⟨⟨⟨⟨⟨⟨⟨⟨⟨⟨⟨⟨⟨⟨⟨⟨⟨⟨⟨⟨⟨⟨⟨⟨⟨⟨j1, JF.j2⟩, JF.j3⟩, j4⟩, j5⟩, j6⟩, JF.j7⟩, j8⟩, JF.j9⟩, j10⟩, j11⟩, j12⟩, j13⟩, j14⟩, j15⟩, j16⟩, j17⟩, j17b⟩, j18⟩, j19⟩, j20⟩, j21⟩, j22⟩, j23⟩, JF.j23b⟩, JF.j24⟩, j24b⟩, j24c⟩, j25⟩, j26⟩, j27⟩, j28⟩
theorem named : Tryz.prog.funcNamed "univocal/univocallaw36.ScriptLinesConcatenate" = some 9 := by kernel_rfl
theorem inst : Tryz.f9.isInstance Tryz.prog Rows.scriptLinesConcatenateUptoRow.origin Rows.scriptLinesConcatenateUptoRow.targs := of_decide_eq_true (by kernel_rfl)
theorem wraps : Tryz.f9.isWrapper Tryz.prog Rows.scriptLinesConcatenateUptoRow.wrapper Rows.scriptLinesConcatenateUptoRow.mainSum := by
  unfold Func.isWrapper; first | (rw [if_pos (by decide +kernel)]; kernel_rfl) | (rw [if_neg (by decide +kernel)]; exact ⟨rfl, rfl⟩)
theorem said : Rows.ScriptLinesConcatenateUptoSaid :=
  OpenClaim.holds_of_cond 9 Tryz.f9 rfl rfl rfl rfl rfl rfl rfl ⟨rfl, rfl, rfl, rfl, rfl⟩ rfl rfl rfl rfl rfl named Tryz.func9 closed inst wraps
    (fun os started H enc _ F => by rw [OpenClaim.pre_eq_preRow]; exact lifted os started H enc F)
theorem plain (f : FuncId) (fn : Func) (hf : Tryz.pinned.checked.prog.funcNamed "univocal/univocallaw36.ScriptLinesConcatenate" = some f) (hfn : Tryz.pinned.checked.prog.funcs[f]? = some fn) :
    true = Tryz.pinned.checked.prog.looks [] ∧ ∀ (j : Nat) t, fn.params[j]? = some t → Tryz.pinned.checked.prog.wantsStandIn t = false := by
  obtain rfl : f = 9 := Option.some.inj ((show Tryz.pinned.checked.prog.funcNamed "univocal/univocallaw36.ScriptLinesConcatenate" = some 9 from named).symm.trans hf) |>.symm
  obtain rfl : fn = Tryz.f9 := (Option.some.inj (Tryz.func9.symm.trans hfn)).symm
  refine ⟨by kernel_rfl, fun j t ht => ?_⟩
  rw [Tryz.params9] at ht
  have hm := Array.mem_of_getElem? ht
  simp only [List.mem_toArray, List.mem_cons, List.not_mem_nil, or_false] at hm
  rcases hm with rfl | rfl | rfl
  all_goals exact (show Tryz.prog.wantsStandIn _ = false by kernel_rfl)
theorem proved : Rows.ScriptLinesConcatenateUptoCardSaid :=
  Claim7.holds_tied_plain_at .later [] _ _ _ _ said (fun _ h => by cases h) (by kernel_rfl) (fun _ h => by cases h) scriptLinesConcatenateUpto_row_tie rfl ⟨rfl, rfl⟩ (by kernel_rfl) rfl plain (by kernel_rfl)
end Go.Proofs.YtcnljflihhggiaaGreatDoor.scriptLinesConcatenate
