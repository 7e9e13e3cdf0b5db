/- The law 'ScriptParseMatchesReference' holds at every input that holds at most 1048576 values and letters: the call returns true, and each argument reads behind the call as it read before. The library's table of powers of ten is tied to the program's text. -/
import Derived.Test.YtcnljflihhggiaaGreatDoorExRowL
import Derived.Test.YtcnljflihhggiaaGreatDoorExBulk
import Derived.Test.YtcnljflihhggiaaGreatDoorEvRow
import Derived.Test.YtcnljflihhggiaaGreatDoorLaw3
import Derived.Test.YtcnljflihhggiaaGreatDoorJF
import Derived.Test.YtcnljflihhggiaaGreatDoorCards
import Derived.Test.YtcnljflihhggiaaGreatDoorTie
import Derived.SevenTiedAt
namespace Go.Proofs.YtcnljflihhggiaaGreatDoor.scriptParseMatchesReference
open Go Go.Ex Go.ChangeShapes Go.WideShapes Go.ChangeAt Go.RowKit
noncomputable def evFs : Array Field := match Tryz.prog.underlying 36 with
  | some (.struct fs) => fs
  | _ => #[]
noncomputable def evTy : EvRowTy Tryz.prog 36 :=
  ⟨fun i => evFs.getD i.val default, 5, by kernel_rfl, by kernel_rfl, ⟨by kernel_rfl, by kernel_rfl, by kernel_rfl, by kernel_rfl⟩, ⟨by kernel_rfl, by kernel_rfl, by kernel_rfl, by kernel_rfl⟩, ⟨by kernel_rfl, by kernel_rfl, by kernel_rfl⟩, by kernel_rfl, by kernel_rfl, by kernel_rfl⟩
theorem cellsU64 : Tryz.prog.cellsOf 112 = 1 := by kernel_rfl
theorem cellsT : Tryz.prog.cellsOf 211 = 20 := by kernel_rfl
theorem gTab : Tryz.prog.globalNamed "internal/strconv.uint64pow10" = some 0 := by kernel_rfl
theorem gTabType : (Tryz.prog.globals[0]?).map (·.type) = some 211 := by kernel_rfl
theorem tailMet {P : Program} {x : String × DataW Unit} {l : List (String × DataW Unit)} {W : World} (h : laidMet P (x :: l) W) : laidMet P l W := by
  obtain ⟨ps, ⟨g', t', cs, fuel, p, q, hg', ht', hvar, hd, htail, rfl⟩, hnd, hc⟩ := h
  exact ⟨q, htail, (List.nodup_append.1 hnd).2.1, fun b off hb => hc b off (List.mem_append_right _ hb)⟩
theorem table {W : World} (h : laidMetH Tryz.prog Rows.scriptParseMatchesReferenceUptoRow.laid W) : Lib.TabIs Tryz.prog W "internal/strconv.uint64pow10" .u64 Lib.pow10Tab :=
  Lib.tabIs_of_head (rest := _) gTab gTabType Tryz.underlying211 Tryz.underlying112 cellsU64 cellsT (tailMet (tailMet h))
theorem tabW {W : World} (h : laidMetH Tryz.prog Rows.scriptParseMatchesReferenceUptoRow.laid W) : Tab10 (Ex.whole W) := by
  have ht := table h
  unfold Lib.TabIs World.var? at ht
  rw [gTab] at ht
  simp only [Option.bind_some] at ht
  cases ho : W.heap[0]? with
  | none => rw [ho] at ht; cases ht
  | some o =>
    refine ⟨o, ho, fun w hw => ?_⟩
    unfold Lib.TabIs World.var?
    rw [gTab]
    simp only [Option.bind_some]
    rw [hw, ← ho]; exact ht
/-- A world for the witness: the settled one, the listed variables laid. -/
def put (cs : Array Value) : Obj → Obj
  | .cells _ t frozen => .cells cs t frozen
  | o => o
noncomputable def laidWorld (os : Os) : World :=
  { World.holding Tryz.prog os ⟨#[], #[], []⟩ with heap := (((World.holding Tryz.prog os ⟨#[], #[], []⟩).heap.modify 0 (put #[.int .u64 1, .int .u64 10, .int .u64 100, .int .u64 1000, .int .u64 10000, .int .u64 100000, .int .u64 1000000, .int .u64 10000000, .int .u64 100000000, .int .u64 1000000000, .int .u64 10000000000, .int .u64 100000000000, .int .u64 1000000000000, .int .u64 10000000000000, .int .u64 100000000000000, .int .u64 1000000000000000, .int .u64 10000000000000000, .int .u64 100000000000000000, .int .u64 1000000000000000000, .int .u64 10000000000000000000])).modify 2 (put #[.int .u8 0, .int .u8 1, .int .u8 28, .int .u8 2, .int .u8 29, .int .u8 14, .int .u8 24, .int .u8 3, .int .u8 30, .int .u8 22, .int .u8 20, .int .u8 15, .int .u8 25, .int .u8 17, .int .u8 4, .int .u8 8, .int .u8 31, .int .u8 27, .int .u8 13, .int .u8 23, .int .u8 21, .int .u8 19, .int .u8 16, .int .u8 7, .int .u8 26, .int .u8 12, .int .u8 18, .int .u8 6, .int .u8 11, .int .u8 5, .int .u8 10, .int .u8 9])).modify 3 (put #[.int .u8 0, .int .u8 1, .int .u8 56, .int .u8 2, .int .u8 57, .int .u8 49, .int .u8 28, .int .u8 3, .int .u8 61, .int .u8 58, .int .u8 42, .int .u8 50, .int .u8 38, .int .u8 29, .int .u8 17, .int .u8 4, .int .u8 62, .int .u8 47, .int .u8 59, .int .u8 36, .int .u8 45, .int .u8 43, .int .u8 51, .int .u8 22, .int .u8 53, .int .u8 39, .int .u8 33, .int .u8 30, .int .u8 24, .int .u8 18, .int .u8 12, .int .u8 5, .int .u8 63, .int .u8 55, .int .u8 48, .int .u8 27, .int .u8 60, .int .u8 41, .int .u8 37, .int .u8 16, .int .u8 46, .int .u8 35, .int .u8 44, .int .u8 21, .int .u8 52, .int .u8 32, .int .u8 23, .int .u8 11, .int .u8 54, .int .u8 26, .int .u8 40, .int .u8 15, .int .u8 34, .int .u8 20, .int .u8 31, .int .u8 10, .int .u8 25, .int .u8 14, .int .u8 19, .int .u8 9, .int .u8 13, .int .u8 8, .int .u8 7, .int .u8 6]) }
theorem laid_met (os : Os) : laidMet Tryz.prog Rows.scriptParseMatchesReferenceUptoRow.laid ((laidWorld os).forCall (fun _ _ => 0) ⟨#[], #[.string ⟨#[]⟩, .slice none 0 0, .slice none 0 0], []⟩).memory :=
  laidMet_of_run' 8 (by kernel_rfl) (by kernel_rfl)
theorem reads (os : Os) {H : Type} (enc : TypeId × Value → H) : ∃ places, DataW.whole enc Tryz.prog ((laidWorld os).forCall (fun _ _ => 0) ⟨#[], #[.string ⟨#[]⟩, .slice none 0 0, .slice none 0 0], []⟩).memory Tryz.f3.params.toList Rows.scriptParseMatchesReferenceSpec.vars false (#[.string ⟨#[]⟩, .slice none 0 0, .slice none 0 0] : Array Value).toList 8 = some ([.lit (.string []), .nil, .nil], [], places) :=
  ⟨[], by kernel_rfl⟩
set_option maxRecDepth 100000 in
theorem lifted (os : Os) (started : os.Started) (H : Type) (enc : TypeId × Value → H) (F : Stop.Interp) :
    ReturnsInHanded {} Tryz.checked os 3 .any ((Rows.OpenSpec.upto Rows.scriptParseMatchesReferenceSpec).preRow enc Tryz.prog Tryz.f3 Rows.scriptParseMatchesReferenceUptoRow.domain false Rows.scriptParseMatchesReferenceUptoRow.laid) (((Rows.OpenSpec.upto Rows.scriptParseMatchesReferenceSpec).at F).post enc Tryz.prog Tryz.f3 false true false false) := by
  obtain ⟨places, hx⟩ := reads os enc
  refine returnsInHanded_of_row (C := Tryz.checked) (s := Rows.OpenSpec.upto Rows.scriptParseMatchesReferenceSpec) JF.own started (by kernel_rfl) Tryz.func3
    (witness_row_at (enc := enc) (C := Tryz.checked) false (laidWorld os) #[.string ⟨#[]⟩, .slice none 0 0, .slice none 0 0] rfl (by kernel_rfl) (by kernel_rfl) (by kernel_rfl)
      (OpenSpec.preRow_of_cond 8 hx (by kernel_rfl) (fun k hk => by cases hk; kernel_rfl) (by kernel_rfl) (laid_met os))) ?_
  intro W base args ds gs before hval0 hW _ hcond _ hL hSh _
  have hval : ∀ (j : Nat) t v, Tryz.f3.params[j]? = some t → args[j]? = some v → Value.okWide Tryz.prog W .any base t v := hval0
  have hW' := hW
  obtain ⟨p, q, hA0, hV, rfl, _, _⟩ := hW
  have hA : DataW.TrodAll enc Tryz.prog W 0 (fun _ => true) true Tryz.f3.params.toList args.toList ds p := hA0
  rw [Tryz.params3] at hA hval
  obtain ⟨v0, v1, v2, d0, d1, d2, p0, p1, p2, rfl, rfl, rfl, h0, h1, h2⟩ := trodAll_three hA
  obtain ⟨rfl, rfl⟩ := trodVars_none hV
  have hk : Rows.uptoSmall H _ = true := hcond _ rfl
  have hT := tabW hL
  obtain ⟨z0, rfl, rfl, _, _⟩ := ChangeMaps.open_string Tryz.underlying9 (hval 0 9 v0 rfl rfl) h0
  obtain ⟨s0, rfl⟩ : ∃ s : List UInt8, z0 = ⟨s.toArray⟩ := ⟨z0.data.toList, rfl⟩
  obtain ⟨a1, len1, cap1, rfl⟩ := okWide_slice Tryz.underlying22 (hval 1 22 v1 rfl rfl)
  obtain ⟨n1, h1⟩ := h1
  obtain ⟨a2, len2, cap2, rfl⟩ := okWide_slice Tryz.underlying23 (hval 2 23 v2 rfl rfl)
  obtain ⟨n2, h2⟩ := h2
  have hn0 : s0.length ≤ 1048576 := by
    have h1 : Rows.uptoBulkAll (H := H) [.lit (.string s0), d1, d2] ≤ 1048576 := Bulk.bound hk
    have h2 := Bulk.mem (H := H) (d := .lit (.string s0)) (l := [.lit (.string s0), d1, d2]) (by simp)
    have h3 : Rows.uptoBulk (H := H) (.lit (.string s0)) = s0.length + 1 := rfl
    omega
  obtain ⟨l1, hx1, hp1⟩ := evs_row evTy Tryz.underlying22 h1
  have hn1 : l1.length ≤ 1048576 := Bulk.len_le hp1 (by simp) hk
  obtain ⟨l2, hx2, hp2⟩ := u16s_row Tryz.underlying23 Tryz.underlying29 Tryz.underlying28 (by kernel_rfl) (by kernel_rfl) h2
  have hn2 : l2.length ≤ 1048576 := Bulk.len_le hp2 (by simp) hk
  refine (law_calls (lawParse (s := s0) (by omega) hx1 hn1 hx2 hn2 hT)).mono fun e W' ⟨he, hg⟩ => ⟨_, he, ?_⟩
  exact post_law (s := Rows.scriptParseMatchesReferenceSpec) JF.j2 (by kernel_rfl) rfl Tryz.underlying4 rfl hW' rfl hg
theorem j1 : Rows.scriptParseMatchesReferenceUptoRow.wf (OpenSpec.ofChange (Rows.OpenSpec.upto Rows.scriptParseMatchesReferenceSpec).bare) = true := by kernel_rfl
theorem j4 : Tryz.f3.params.all (Tryz.prog.readableRec ·) = true := by kernel_rfl
theorem j5 : namedTie Tryz.prog Rows.scriptParseMatchesReferenceUptoRow.named (Rows.OpenSpec.upto Rows.scriptParseMatchesReferenceSpec).bare.vars = true := by kernel_rfl
theorem j6 : (Rows.scriptParseMatchesReferenceUptoRow.stops == []) = true := by kernel_rfl
theorem j8 : (Rows.scriptParseMatchesReferenceUptoRow.knobs == []) = true := by kernel_rfl
theorem j10 : (Rows.scriptParseMatchesReferenceUptoRow.inPlace == Tryz.prog.inPlace 3) = true := by kernel_rfl
theorem j11 : (Rows.scriptParseMatchesReferenceUptoRow.unfollowed == Tryz.prog.unfollowed 3) = true := by kernel_rfl
theorem j12 : (Rows.scriptParseMatchesReferenceUptoRow.recurses == Tryz.prog.recurses 3) = true := by kernel_rfl
theorem j13 : (Rows.scriptParseMatchesReferenceUptoRow.named == Tryz.prog.varsNamed 3) = true := by kernel_rfl
theorem j14 : (Rows.scriptParseMatchesReferenceUptoRow.maps == (Tryz.f3.params.toList ++ (Rows.OpenSpec.upto Rows.scriptParseMatchesReferenceSpec).bare.plain.varTypes Tryz.prog).any (Tryz.prog.mapsRec ·)) = true := by kernel_rfl
theorem j15 : (Rows.scriptParseMatchesReferenceUptoRow.ifaces == (Tryz.f3.params.toList ++ (Rows.OpenSpec.upto Rows.scriptParseMatchesReferenceSpec).bare.plain.varTypes Tryz.prog).any (Tryz.prog.ifacesRec ·)) = true := by kernel_rfl
theorem j16 : (Rows.scriptParseMatchesReferenceUptoRow.mapsOut == Tryz.prog.mapsAmong Tryz.f3.resultTypes.toList) = true := by kernel_rfl
theorem j17 : (Rows.scriptParseMatchesReferenceUptoRow.loops == (Tryz.f3.params.toList ++ (Rows.OpenSpec.upto Rows.scriptParseMatchesReferenceSpec).bare.plain.varTypes Tryz.prog).any (Tryz.prog.loopsFrom ·)) = true := by kernel_rfl
theorem j17b : (Rows.scriptParseMatchesReferenceUptoRow.wideKeys == (Tryz.f3.params.toList ++ (Rows.OpenSpec.upto Rows.scriptParseMatchesReferenceSpec).bare.plain.varTypes Tryz.prog ++ Tryz.f3.resultTypes.toList).any (Tryz.prog.wideKeysFrom ·)) = true := by kernel_rfl
theorem j18 : (Rows.OpenSpec.upto Rows.scriptParseMatchesReferenceSpec).bare.vars.all (Tryz.prog.varReadable ·) = true := by kernel_rfl
theorem j19 : Tryz.f3.resultTypes.all (fun t => Tryz.prog.readableRec t && decide (t < Tryz.prog.types.size)) = true := by kernel_rfl
theorem j20 : (Rows.scriptParseMatchesReferenceUptoRow.ifacesOut == Tryz.f3.resultTypes.toList.any (Tryz.prog.ifacesRec ·)) = true := by kernel_rfl
theorem j21 : (Rows.scriptParseMatchesReferenceUptoRow.loopsOut == Tryz.f3.resultTypes.toList.any (Tryz.prog.loopsFrom ·)) = true := by kernel_rfl
theorem j23 : Rows.scriptParseMatchesReferenceUptoRow.shortTexts.isNone = true := by kernel_rfl
theorem j25 : (Rows.scriptParseMatchesReferenceUptoRow.kinds == (if Rows.scriptParseMatchesReferenceUptoRow.domain.isEmpty then [] else Tryz.f3.params.toList.map fun t => match Tryz.prog.underlying t with | some (.int k) => some k | _ => none)) = true := by kernel_rfl
theorem j26 : (Rows.scriptParseMatchesReferenceUptoRow.pinned == Rows.scriptParseMatchesReferenceUptoRow.pinnedBy) = true := by kernel_rfl
theorem j27 : (Rows.scriptParseMatchesReferenceUptoRow.veiled == (Tryz.f3.params.toList ++ (Rows.OpenSpec.upto Rows.scriptParseMatchesReferenceSpec).bare.plain.varTypes Tryz.prog ++ Tryz.f3.resultTypes.toList).any (Tryz.prog.veiledRec ·)) = true := by kernel_rfl
theorem j28 : Rows.scriptParseMatchesReferenceUptoRow.veiledFits Tryz.prog Tryz.f3.params.toList (Tryz.f3.params.toList ++ (Rows.OpenSpec.upto Rows.scriptParseMatchesReferenceSpec).bare.plain.varTypes Tryz.prog ++ Tryz.f3.resultTypes.toList) = true := by kernel_rfl
theorem j22 : (Rows.scriptParseMatchesReferenceUptoRow.plainKeys == Tryz.prog.plainKeys) = true := by
  rw [show Rows.scriptParseMatchesReferenceUptoRow.plainKeys = Rows.scriptParseMatchesReferenceUptoRow.plainKeys by kernel_rfl]; exact JF.j22
theorem j24b : (Rows.scriptParseMatchesReferenceUptoRow.lifted == Tryz.prog.liftsFinal) = true := by
  rw [show Rows.scriptParseMatchesReferenceUptoRow.lifted = Rows.scriptParseMatchesReferenceUptoRow.lifted by kernel_rfl]; exact JF.j24b
theorem j24c : (Tryz.prog.make == some Rows.scriptParseMatchesReferenceUptoRow.make) = true := by
  rw [show Rows.scriptParseMatchesReferenceUptoRow.make = Rows.scriptParseMatchesReferenceUptoRow.make by kernel_rfl]; exact JF.j24c
set_option maxRecDepth 10000 in
theorem closed : joinedFacts Tryz.prog 3 Tryz.f3 (Rows.OpenSpec.upto Rows.scriptParseMatchesReferenceSpec).bare Rows.scriptParseMatchesReferenceUptoRow = true := by
  unfold joinedFacts
  simp only [Bool.and_eq_true]
  exact ⟨⟨⟨⟨⟨⟨⟨⟨⟨⟨⟨⟨⟨⟨⟨⟨⟨⟨⟨⟨⟨⟨⟨⟨⟨⟨⟨⟨⟨⟨⟨j1, JF.j2⟩, JF.j3⟩, j4⟩, j5⟩, j6⟩, JF.j7⟩, j8⟩, JF.j9⟩, j10⟩, j11⟩, j12⟩, j13⟩, j14⟩, j15⟩, j16⟩, j17⟩, j17b⟩, j18⟩, j19⟩, j20⟩, j21⟩, j22⟩, j23⟩, JF.j23b⟩, JF.j24⟩, j24b⟩, j24c⟩, j25⟩, j26⟩, j27⟩, j28⟩
theorem named : Tryz.prog.funcNamed "univocal/univocallaw36.ScriptParseMatchesReference" = some 3 := by kernel_rfl
theorem inst : Tryz.f3.isInstance Tryz.prog Rows.scriptParseMatchesReferenceUptoRow.origin Rows.scriptParseMatchesReferenceUptoRow.targs := of_decide_eq_true (by kernel_rfl)
theorem wraps : Tryz.f3.isWrapper Tryz.prog Rows.scriptParseMatchesReferenceUptoRow.wrapper Rows.scriptParseMatchesReferenceUptoRow.mainSum := by
  unfold Func.isWrapper; first | (rw [if_pos (by decide +kernel)]; kernel_rfl) | (rw [if_neg (by decide +kernel)]; exact ⟨rfl, rfl⟩)
theorem said : Rows.ScriptParseMatchesReferenceUptoSaid :=
  OpenClaim.holds_of_cond 3 Tryz.f3 rfl rfl rfl rfl rfl rfl rfl ⟨rfl, rfl, rfl, rfl, rfl⟩ rfl rfl rfl rfl rfl named Tryz.func3 closed inst wraps
    (fun os started H enc _ F => by rw [OpenClaim.pre_eq_preRow]; exact lifted os started H enc F)
theorem plain (f : FuncId) (fn : Func) (hf : Tryz.pinned.checked.prog.funcNamed "univocal/univocallaw36.ScriptParseMatchesReference" = some f) (hfn : Tryz.pinned.checked.prog.funcs[f]? = some fn) :
    true = Tryz.pinned.checked.prog.looks [] ∧ ∀ (j : Nat) t, fn.params[j]? = some t → Tryz.pinned.checked.prog.wantsStandIn t = false := by
  obtain rfl : f = 3 := Option.some.inj ((show Tryz.pinned.checked.prog.funcNamed "univocal/univocallaw36.ScriptParseMatchesReference" = some 3 from named).symm.trans hf) |>.symm
  obtain rfl : fn = Tryz.f3 := (Option.some.inj (Tryz.func3.symm.trans hfn)).symm
  refine ⟨by kernel_rfl, fun j t ht => ?_⟩
  rw [Tryz.params3] at ht
  have hm := Array.mem_of_getElem? ht
  simp only [List.mem_toArray, List.mem_cons, List.not_mem_nil, or_false] at hm
  rcases hm with rfl | rfl | rfl
  all_goals exact (show Tryz.prog.wantsStandIn _ = false by kernel_rfl)
theorem proved : Rows.ScriptParseMatchesReferenceUptoCardSaid :=
  Claim7.holds_tied_plain_at .later [] _ _ _ _ said (fun _ h => by cases h) (by kernel_rfl) (fun _ h => by cases h) scriptParseMatchesReferenceUpto_row_tie rfl ⟨rfl, rfl⟩ (by kernel_rfl) rfl plain (by kernel_rfl)
end Go.Proofs.YtcnljflihhggiaaGreatDoor.scriptParseMatchesReference
