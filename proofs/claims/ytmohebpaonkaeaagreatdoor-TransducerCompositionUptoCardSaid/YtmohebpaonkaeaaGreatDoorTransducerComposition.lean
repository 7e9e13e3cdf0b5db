/- The law 'TransducerComposition' holds at every input that holds at most 1048576 values and letters: the call returns true, and each argument reads behind the call as it read before. The library's table of bit positions is tied to the program's text. -/
import Derived.Test.YtmohebpaonkaeaaGreatDoorLaw8
import Derived.Test.YtmohebpaonkaeaaGreatDoorJF
import Derived.Test.YtmohebpaonkaeaaGreatDoorCards
import Derived.Test.YtmohebpaonkaeaaGreatDoorTie
import Derived.SevenTiedAt
namespace Go.Proofs.YtmohebpaonkaeaaGreatDoor.transducerComposition
open Go Go.Ex Go.ChangeShapes Go.WideShapes Go.ChangeAt Go.RowKit
noncomputable def rawTFs:Array Field:=match Tryz.prog.underlying 24 with
 | some (.struct fs)=>fs
 | _=>#[]
noncomputable def rawTTy:RawTTy Tryz.prog 24 :=
 ⟨fun i=>rawTFs.getD i.val default,5,by kernel_rfl,by kernel_rfl,⟨by kernel_rfl,by kernel_rfl,by kernel_rfl,by kernel_rfl,by kernel_rfl⟩,⟨by kernel_rfl,by kernel_rfl,by kernel_rfl,by kernel_rfl,by kernel_rfl⟩,⟨by kernel_rfl,by kernel_rfl,by kernel_rfl,by kernel_rfl,by kernel_rfl⟩,by kernel_rfl,by kernel_rfl⟩
theorem cellsU8:Tryz.prog.cellsOf 5=1:=by kernel_rfl
theorem cellsT:Tryz.prog.cellsOf 267=64:=by kernel_rfl
theorem gTab : Tryz.prog.globalNamed "math/bits.deBruijn64tab" = some 0 := by kernel_rfl
theorem gTabType:(Tryz.prog.globals[0]?).map (·.type)=some 267:=by kernel_rfl
theorem table {W : World} (h : laidMetH Tryz.prog Rows.transducerCompositionUptoRow.laid W) : Lib.TabIs Tryz.prog W "math/bits.deBruijn64tab" .u8 (tab64.map fun n : Nat => (n : Int)) :=
 Lib.tabIs_of_head (rest:=_) gTab gTabType Tryz.underlying267 Tryz.underlying5 cellsU8 cellsT h
theorem tabW {W:World} (h:laidMetH Tryz.prog Rows.transducerCompositionUptoRow.laid W):Tab (Ex.whole W):=fun i hi=>by
 rw [gcell_whole,(table h).cell gTab i (by simpa [tab64] using hi)]
 congr 2
 simp only [List.getD_eq_getElem?_getD,List.getElem?_map]
 rw [List.getElem?_eq_getElem (by exact hi)];rfl
def put (cs:Array Value):Obj→Obj
 | .cells _ t frozen=>.cells cs t frozen
 | o=>o
noncomputable def laidWorld (os:Os):World :=
 { World.holding Tryz.prog os ⟨#[],#[],[]⟩ with heap:=(World.holding Tryz.prog os ⟨#[],#[],[]⟩).heap.modify 0 (put #[.int .u8 0,.int .u8 1,.int .u8 56,.int .u8 2,.int .u8 57,.int .u8 49,.int .u8 28,.int .u8 3,.int .u8 61,.int .u8 58,.int .u8 42,.int .u8 50,.int .u8 38,.int .u8 29,.int .u8 17,.int .u8 4,.int .u8 62,.int .u8 47,.int .u8 59,.int .u8 36,.int .u8 45,.int .u8 43,.int .u8 51,.int .u8 22,.int .u8 53,.int .u8 39,.int .u8 33,.int .u8 30,.int .u8 24,.int .u8 18,.int .u8 12,.int .u8 5,.int .u8 63,.int .u8 55,.int .u8 48,.int .u8 27,.int .u8 60,.int .u8 41,.int .u8 37,.int .u8 16,.int .u8 46,.int .u8 35,.int .u8 44,.int .u8 21,.int .u8 52,.int .u8 32,.int .u8 23,.int .u8 11,.int .u8 54,.int .u8 26,.int .u8 40,.int .u8 15,.int .u8 34,.int .u8 20,.int .u8 31,.int .u8 10,.int .u8 25,.int .u8 14,.int .u8 19,.int .u8 9,.int .u8 13,.int .u8 8,.int .u8 7,.int .u8 6]) }
theorem laid_met (os:Os):laidMet Tryz.prog Rows.transducerCompositionUptoRow.laid ((laidWorld os).forCall (fun _ _=>0) ⟨#[],#[.agg #[.int .u8 0,.slice none 0 0,.slice none 0 0,.int .u8 0,.slice none 0 0],.agg #[.int .u8 0,.slice none 0 0,.slice none 0 0,.int .u8 0,.slice none 0 0],.slice none 0 0],[]⟩).memory :=
 laidMet_of_run' 8 (by kernel_rfl) (by kernel_rfl)
theorem reads (os:Os) {H:Type} (enc:TypeId×Value→H):∃ places,DataW.whole enc Tryz.prog ((laidWorld os).forCall (fun _ _=>0) ⟨#[],#[.agg #[.int .u8 0,.slice none 0 0,.slice none 0 0,.int .u8 0,.slice none 0 0],.agg #[.int .u8 0,.slice none 0 0,.slice none 0 0,.int .u8 0,.slice none 0 0],.slice none 0 0],[]⟩).memory Tryz.f8.params.toList Rows.transducerCompositionSpec.vars false (#[.agg #[.int .u8 0,.slice none 0 0,.slice none 0 0,.int .u8 0,.slice none 0 0],.agg #[.int .u8 0,.slice none 0 0,.slice none 0 0,.int .u8 0,.slice none 0 0],.slice none 0 0]:Array Value).toList 8=some ([.agg [.lit (.int .u8 0),.nil,.nil,.lit (.int .u8 0),.nil],.agg [.lit (.int .u8 0),.nil,.nil,.lit (.int .u8 0),.nil],.nil],[],places) :=
 ⟨[],by kernel_rfl⟩
set_option maxRecDepth 100000 in
theorem lifted (os:Os) (started:os.Started) (H:Type) (enc:TypeId×Value→H) (F:Stop.Interp) :
  ReturnsInHanded {} Tryz.checked os 8 .any ((Rows.OpenSpec.upto Rows.transducerCompositionSpec).preRow enc Tryz.prog Tryz.f8 Rows.transducerCompositionUptoRow.domain false Rows.transducerCompositionUptoRow.laid) (((Rows.OpenSpec.upto Rows.transducerCompositionSpec).at F).post enc Tryz.prog Tryz.f8 false true false false):=by
 obtain ⟨places,hx⟩:=reads os enc
 refine returnsInHanded_of_row (C:=Tryz.checked) (s:=Rows.OpenSpec.upto Rows.transducerCompositionSpec) JF.own started (by kernel_rfl) Tryz.func8
  (witness_row_at (enc:=enc) (C:=Tryz.checked) false (laidWorld os) #[.agg #[.int .u8 0,.slice none 0 0,.slice none 0 0,.int .u8 0,.slice none 0 0],.agg #[.int .u8 0,.slice none 0 0,.slice none 0 0,.int .u8 0,.slice none 0 0],.slice none 0 0] rfl (by kernel_rfl) (by kernel_rfl) (by kernel_rfl)
   (OpenSpec.preRow_of_cond 8 hx (by kernel_rfl) (fun k hk=>by cases hk;kernel_rfl) (by kernel_rfl) (laid_met os))) ?_
 intro W base args ds gs before hval0 hW _ hcond _ hL hSh _
 have hval:∀ (j:Nat) t v,Tryz.f8.params[j]?=some t→args[j]?=some v→Value.okWide Tryz.prog W .any base t v:=hval0
 have hW':=hW
 obtain ⟨p,q,hA0,hV,rfl,_,_⟩:=hW
 have hA:DataW.TrodAll enc Tryz.prog W 0 (fun _=>true) true Tryz.f8.params.toList args.toList ds p:=hA0
 rw [Tryz.params8] at hA hval
 obtain ⟨v0,v1,v2,d0,d1,d2,p0,p1,p2,rfl,rfl,rfl,h0,h1,h2⟩:=trodAll_three hA
 obtain ⟨rfl,rfl⟩:=trodVars_none hV
 have hk:Rows.uptoSmall H _=true:=hcond _ rfl
 have hT:=tabW hL
 obtain ⟨n0,h0⟩:=h0
 obtain ⟨za0,zb0,va0,vb0,vc0,la0,lb0,lc0,da0,db0,dc0,rfl,ha0,hb0,hc0⟩:=rawT_val rawTTy (hval 0 24 v0 rfl rfl) h0
 obtain ⟨n1,h1⟩:=h1
 obtain ⟨za1,zb1,va1,vb1,vc1,la1,lb1,lc1,da1,db1,dc1,rfl,ha1,hb1,hc1⟩:=rawT_val rawTTy (hval 1 24 v1 rfl rfl) h1
 obtain ⟨a2,len2,cap2,rfl⟩:=okWide_slice Tryz.underlying22 (hval 2 22 v2 rfl rfl)
 obtain ⟨n2,h2⟩:=h2
 obtain ⟨b2,hb2,hp2⟩:=bytes_rowN Tryz.underlying22 Tryz.underlying5 cellsU8 h2
 refine (law_calls (lcmp_ok ha0.1 hb0.1 hc0.1 (Nat.le_trans (Bulk.len_deep (ha0.2.1) (ha0.2.2) (by simp) hk) (by decide)) (Nat.le_trans (Bulk.len_deep (hb0.2.1) (hb0.2.2) (by simp) hk) (by decide)) (Nat.le_trans (Bulk.len_deep (hc0.2.1) (hc0.2.2) (by simp) hk) (by decide)) ha1.1 hb1.1 hc1.1 (Nat.le_trans (Bulk.len_deep (ha1.2.1) (ha1.2.2) (by simp) hk) (by decide)) (Nat.le_trans (Bulk.len_deep (hb1.2.1) (hb1.2.2) (by simp) hk) (by decide)) (Nat.le_trans (Bulk.len_deep (hc1.2.1) (hc1.2.2) (by simp) hk) (by decide)) hb2 (Nat.le_trans (Bulk.len_le hp2 (by simp) hk) (by decide)) hT)).mono fun e W' ⟨he,hg⟩=>⟨_,he,?_⟩
 exact post_law (s:=Rows.transducerCompositionSpec) JF.j2 (by kernel_rfl) rfl Tryz.underlying4 rfl hW' rfl hg
theorem j1:Rows.transducerCompositionUptoRow.wf (OpenSpec.ofChange (Rows.OpenSpec.upto Rows.transducerCompositionSpec).bare)=true:=by kernel_rfl
theorem j4:Tryz.f8.params.all (Tryz.prog.readableRec ·)=true:=by kernel_rfl
theorem j5:namedTie Tryz.prog Rows.transducerCompositionUptoRow.named (Rows.OpenSpec.upto Rows.transducerCompositionSpec).bare.vars=true:=by kernel_rfl
theorem j6:(Rows.transducerCompositionUptoRow.stops == [])=true:=by kernel_rfl
theorem j8:(Rows.transducerCompositionUptoRow.knobs == [])=true:=by kernel_rfl
theorem j10:(Rows.transducerCompositionUptoRow.inPlace == Tryz.prog.inPlace 8)=true:=by kernel_rfl
theorem j11:(Rows.transducerCompositionUptoRow.unfollowed == Tryz.prog.unfollowed 8)=true:=by kernel_rfl
theorem j12:(Rows.transducerCompositionUptoRow.recurses == Tryz.prog.recurses 8)=true:=by kernel_rfl
theorem j13:(Rows.transducerCompositionUptoRow.named == Tryz.prog.varsNamed 8)=true:=by kernel_rfl
theorem j14:(Rows.transducerCompositionUptoRow.maps == (Tryz.f8.params.toList++(Rows.OpenSpec.upto Rows.transducerCompositionSpec).bare.plain.varTypes Tryz.prog).any (Tryz.prog.mapsRec ·))=true:=by kernel_rfl
theorem j15:(Rows.transducerCompositionUptoRow.ifaces == (Tryz.f8.params.toList++(Rows.OpenSpec.upto Rows.transducerCompositionSpec).bare.plain.varTypes Tryz.prog).any (Tryz.prog.ifacesRec ·))=true:=by kernel_rfl
theorem j16:(Rows.transducerCompositionUptoRow.mapsOut == Tryz.prog.mapsAmong Tryz.f8.resultTypes.toList)=true:=by kernel_rfl
theorem j17:(Rows.transducerCompositionUptoRow.loops == (Tryz.f8.params.toList++(Rows.OpenSpec.upto Rows.transducerCompositionSpec).bare.plain.varTypes Tryz.prog).any (Tryz.prog.loopsFrom ·))=true:=by kernel_rfl
theorem j17b:(Rows.transducerCompositionUptoRow.wideKeys == (Tryz.f8.params.toList++(Rows.OpenSpec.upto Rows.transducerCompositionSpec).bare.plain.varTypes Tryz.prog++Tryz.f8.resultTypes.toList).any (Tryz.prog.wideKeysFrom ·))=true:=by kernel_rfl
theorem j18:(Rows.OpenSpec.upto Rows.transducerCompositionSpec).bare.vars.all (Tryz.prog.varReadable ·)=true:=by kernel_rfl
theorem j19:Tryz.f8.resultTypes.all (fun t=>Tryz.prog.readableRec t && decide (t<Tryz.prog.types.size))=true:=by kernel_rfl
theorem j20:(Rows.transducerCompositionUptoRow.ifacesOut == Tryz.f8.resultTypes.toList.any (Tryz.prog.ifacesRec ·))=true:=by kernel_rfl
theorem j21:(Rows.transducerCompositionUptoRow.loopsOut == Tryz.f8.resultTypes.toList.any (Tryz.prog.loopsFrom ·))=true:=by kernel_rfl
theorem j23:Rows.transducerCompositionUptoRow.shortTexts.isNone=true:=by kernel_rfl
theorem j25:(Rows.transducerCompositionUptoRow.kinds == (if Rows.transducerCompositionUptoRow.domain.isEmpty then [] else Tryz.f8.params.toList.map fun t=>match Tryz.prog.underlying t with | some (.int k)=>some k | _=>none))=true:=by kernel_rfl
theorem j26:(Rows.transducerCompositionUptoRow.pinned == Rows.transducerCompositionUptoRow.pinnedBy)=true:=by kernel_rfl
theorem j27:(Rows.transducerCompositionUptoRow.veiled == (Tryz.f8.params.toList++(Rows.OpenSpec.upto Rows.transducerCompositionSpec).bare.plain.varTypes Tryz.prog++Tryz.f8.resultTypes.toList).any (Tryz.prog.veiledRec ·))=true:=by kernel_rfl
theorem j28:Rows.transducerCompositionUptoRow.veiledFits Tryz.prog Tryz.f8.params.toList (Tryz.f8.params.toList++(Rows.OpenSpec.upto Rows.transducerCompositionSpec).bare.plain.varTypes Tryz.prog++Tryz.f8.resultTypes.toList)=true:=by kernel_rfl
theorem j22:(Rows.transducerCompositionUptoRow.plainKeys == Tryz.prog.plainKeys)=true:=by
 rw [show Rows.transducerCompositionUptoRow.plainKeys=Rows.transducerDomainUptoRow.plainKeys by kernel_rfl];exact JF.j22
theorem j24b:(Rows.transducerCompositionUptoRow.lifted == Tryz.prog.liftsFinal)=true:=by
 rw [show Rows.transducerCompositionUptoRow.lifted=Rows.transducerDomainUptoRow.lifted by kernel_rfl];exact JF.j24b
theorem j24c:(Tryz.prog.make == some Rows.transducerCompositionUptoRow.make)=true:=by
 rw [show Rows.transducerCompositionUptoRow.make=Rows.transducerDomainUptoRow.make by kernel_rfl];exact JF.j24c
set_option maxRecDepth 10000 in
theorem closed:joinedFacts Tryz.prog 8 Tryz.f8 (Rows.OpenSpec.upto Rows.transducerCompositionSpec).bare Rows.transducerCompositionUptoRow=true:=by
 unfold joinedFacts
 simp only [Bool.and_eq_true]
 exact ⟨⟨⟨⟨⟨⟨⟨⟨⟨⟨⟨⟨⟨⟨⟨⟨⟨⟨⟨⟨⟨⟨⟨⟨⟨⟨⟨⟨⟨⟨⟨j1,JF.j2⟩,JF.j3⟩,j4⟩,j5⟩,j6⟩,JF.j7⟩,j8⟩,JF.j9⟩,j10⟩,j11⟩,j12⟩,j13⟩,j14⟩,j15⟩,j16⟩,j17⟩,j17b⟩,j18⟩,j19⟩,j20⟩,j21⟩,j22⟩,j23⟩,JF.j23b⟩,JF.j24⟩,j24b⟩,j24c⟩,j25⟩,j26⟩,j27⟩,j28⟩
theorem named : Tryz.prog.funcNamed "univocal/univocallaw07.TransducerComposition" = some 8 := by kernel_rfl
theorem inst:Tryz.f8.isInstance Tryz.prog Rows.transducerCompositionUptoRow.origin Rows.transducerCompositionUptoRow.targs:=of_decide_eq_true (by kernel_rfl)
theorem wraps:Tryz.f8.isWrapper Tryz.prog Rows.transducerCompositionUptoRow.wrapper Rows.transducerCompositionUptoRow.mainSum:=by
 unfold Func.isWrapper;first|(rw [if_pos (by decide +kernel)];kernel_rfl)|(rw [if_neg (by decide +kernel)];exact ⟨rfl,rfl⟩)
theorem said:Rows.TransducerCompositionUptoSaid :=
 OpenClaim.holds_of_cond 8 Tryz.f8 rfl rfl rfl rfl rfl rfl rfl ⟨rfl,rfl,rfl,rfl,rfl⟩ rfl rfl rfl rfl rfl named Tryz.func8 closed inst wraps
  (fun os started H enc _ F=>by rw [OpenClaim.pre_eq_preRow];exact lifted os started H enc F)
theorem plain (f : FuncId) (fn : Func) (hf : Tryz.pinned.checked.prog.funcNamed "univocal/univocallaw07.TransducerComposition" = some f) (hfn : Tryz.pinned.checked.prog.funcs[f]? = some fn) :
  false=Tryz.pinned.checked.prog.looks []∧∀ (j:Nat) t,fn.params[j]?=some t→Tryz.pinned.checked.prog.wantsStandIn t=false:=by
 obtain rfl : f = 8 := Option.some.inj ((show Tryz.pinned.checked.prog.funcNamed "univocal/univocallaw07.TransducerComposition" = some 8 from named).symm.trans hf) |>.symm
 obtain rfl:fn=Tryz.f8:=(Option.some.inj (Tryz.func8.symm.trans hfn)).symm
 refine ⟨by kernel_rfl,fun j t ht=>?_⟩
 rw [Tryz.params8] at ht
 have hm:=Array.mem_of_getElem? ht
 simp only [List.mem_toArray,List.mem_cons,List.not_mem_nil,or_false] at hm
 rcases hm with rfl | rfl | rfl
 all_goals exact (show Tryz.prog.wantsStandIn _=false by kernel_rfl)
theorem proved:Rows.TransducerCompositionUptoCardSaid :=
 Claim7.holds_tied_plain_at .later [] _ _ _ _ said (fun _ h=>by cases h) JF.wT (fun _ h=>by cases h) transducerCompositionUpto_row_tie rfl ⟨rfl,rfl⟩ JF.mT rfl plain JF.gT
end Go.Proofs.YtmohebpaonkaeaaGreatDoor.transducerComposition
