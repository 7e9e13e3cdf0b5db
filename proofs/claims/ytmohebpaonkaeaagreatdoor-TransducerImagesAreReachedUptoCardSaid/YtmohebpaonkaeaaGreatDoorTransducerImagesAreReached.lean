/- The law 'TransducerImagesAreReached' holds at every input that holds at most 1048576 values and letters: the call returns true, and each argument reads behind the call as it read before. The library's table of bit positions is tied to the program's text. -/
import Derived.Test.YtmohebpaonkaeaaGreatDoorLaw7
import Derived.Test.YtmohebpaonkaeaaGreatDoorJF
import Derived.Test.YtmohebpaonkaeaaGreatDoorCards
import Derived.Test.YtmohebpaonkaeaaGreatDoorTie
import Derived.SevenTiedAt
namespace Go.Proofs.YtmohebpaonkaeaaGreatDoor.transducerImagesAreReached
open Go Go.Ex Go.ChangeShapes Go.WideShapes Go.ChangeAt Go.RowKit
noncomputable def rawTFs:Array Field:=match Tryz.prog.underlying 24 with
 | some (.struct fs)=>fs
 | _=>#[]
noncomputable def rawTTy:RawTTy Tryz.prog 24 :=
 ⟨fun i=>rawTFs.getD i.val default,5,by kernel_rfl,by kernel_rfl,⟨by kernel_rfl,by kernel_rfl,by kernel_rfl,by kernel_rfl,by kernel_rfl⟩,⟨by kernel_rfl,by kernel_rfl,by kernel_rfl,by kernel_rfl,by kernel_rfl⟩,⟨by kernel_rfl,by kernel_rfl,by kernel_rfl,by kernel_rfl,by kernel_rfl⟩,by kernel_rfl,by kernel_rfl⟩
noncomputable def rawDFs:Array Field:=match Tryz.prog.underlying 26 with
 | some (.struct fs)=>fs
 | _=>#[]
noncomputable def rawDTy:RawDTy Tryz.prog 26 :=
 ⟨fun i=>rawDFs.getD i.val default,5,by kernel_rfl,by kernel_rfl,⟨by kernel_rfl,by kernel_rfl,by kernel_rfl⟩,⟨by kernel_rfl,by kernel_rfl,by kernel_rfl⟩,⟨by kernel_rfl,by kernel_rfl,by kernel_rfl⟩,by kernel_rfl,by kernel_rfl⟩
theorem cellsU8:Tryz.prog.cellsOf 5=1:=by kernel_rfl
theorem cellsT:Tryz.prog.cellsOf 267=64:=by kernel_rfl
theorem gTab : Tryz.prog.globalNamed "math/bits.deBruijn64tab" = some 0 := by kernel_rfl
theorem gTabType:(Tryz.prog.globals[0]?).map (·.type)=some 267:=by kernel_rfl
theorem table {W : World} (h : laidMetH Tryz.prog Rows.transducerImagesAreReachedUptoRow.laid W) : Lib.TabIs Tryz.prog W "math/bits.deBruijn64tab" .u8 (tab64.map fun n : Nat => (n : Int)) :=
 Lib.tabIs_of_head (rest:=_) gTab gTabType Tryz.underlying267 Tryz.underlying5 cellsU8 cellsT h
theorem tabW {W:World} (h:laidMetH Tryz.prog Rows.transducerImagesAreReachedUptoRow.laid W):Tab (Ex.whole W):=fun i hi=>by
 rw [gcell_whole,(table h).cell gTab i (by simpa [tab64] using hi)]
 congr 2
 simp only [List.getD_eq_getElem?_getD,List.getElem?_map]
 rw [List.getElem?_eq_getElem (by exact hi)];rfl
def put (cs:Array Value):Obj→Obj
 | .cells _ t frozen=>.cells cs t frozen
 | o=>o
noncomputable def laidWorld (os:Os):World :=
 { World.holding Tryz.prog os ⟨#[],#[],[]⟩ with heap:=(World.holding Tryz.prog os ⟨#[],#[],[]⟩).heap.modify 0 (put #[.int .u8 0,.int .u8 1,.int .u8 56,.int .u8 2,.int .u8 57,.int .u8 49,.int .u8 28,.int .u8 3,.int .u8 61,.int .u8 58,.int .u8 42,.int .u8 50,.int .u8 38,.int .u8 29,.int .u8 17,.int .u8 4,.int .u8 62,.int .u8 47,.int .u8 59,.int .u8 36,.int .u8 45,.int .u8 43,.int .u8 51,.int .u8 22,.int .u8 53,.int .u8 39,.int .u8 33,.int .u8 30,.int .u8 24,.int .u8 18,.int .u8 12,.int .u8 5,.int .u8 63,.int .u8 55,.int .u8 48,.int .u8 27,.int .u8 60,.int .u8 41,.int .u8 37,.int .u8 16,.int .u8 46,.int .u8 35,.int .u8 44,.int .u8 21,.int .u8 52,.int .u8 32,.int .u8 23,.int .u8 11,.int .u8 54,.int .u8 26,.int .u8 40,.int .u8 15,.int .u8 34,.int .u8 20,.int .u8 31,.int .u8 10,.int .u8 25,.int .u8 14,.int .u8 19,.int .u8 9,.int .u8 13,.int .u8 8,.int .u8 7,.int .u8 6]) }
theorem laid_met (os:Os):laidMet Tryz.prog Rows.transducerImagesAreReachedUptoRow.laid ((laidWorld os).forCall (fun _ _=>0) ⟨#[],#[.agg #[.int .u8 0,.slice none 0 0,.slice none 0 0,.int .u8 0,.slice none 0 0],.agg #[.int .u8 0,.slice none 0 0,.int .u8 0],.slice none 0 0],[]⟩).memory :=
 laidMet_of_run' 8 (by kernel_rfl) (by kernel_rfl)
theorem reads (os:Os) {H:Type} (enc:TypeId×Value→H):∃ places,DataW.whole enc Tryz.prog ((laidWorld os).forCall (fun _ _=>0) ⟨#[],#[.agg #[.int .u8 0,.slice none 0 0,.slice none 0 0,.int .u8 0,.slice none 0 0],.agg #[.int .u8 0,.slice none 0 0,.int .u8 0],.slice none 0 0],[]⟩).memory Tryz.f7.params.toList Rows.transducerImagesAreReachedSpec.vars false (#[.agg #[.int .u8 0,.slice none 0 0,.slice none 0 0,.int .u8 0,.slice none 0 0],.agg #[.int .u8 0,.slice none 0 0,.int .u8 0],.slice none 0 0]:Array Value).toList 8=some ([.agg [.lit (.int .u8 0),.nil,.nil,.lit (.int .u8 0),.nil],.agg [.lit (.int .u8 0),.nil,.lit (.int .u8 0)],.nil],[],places) :=
 ⟨[],by kernel_rfl⟩
set_option maxRecDepth 100000 in
theorem lifted (os:Os) (started:os.Started) (H:Type) (enc:TypeId×Value→H) (F:Stop.Interp) :
  ReturnsInHanded {} Tryz.checked os 7 .any ((Rows.OpenSpec.upto Rows.transducerImagesAreReachedSpec).preRow enc Tryz.prog Tryz.f7 Rows.transducerImagesAreReachedUptoRow.domain false Rows.transducerImagesAreReachedUptoRow.laid) (((Rows.OpenSpec.upto Rows.transducerImagesAreReachedSpec).at F).post enc Tryz.prog Tryz.f7 false true false false):=by
 obtain ⟨places,hx⟩:=reads os enc
 refine returnsInHanded_of_row (C:=Tryz.checked) (s:=Rows.OpenSpec.upto Rows.transducerImagesAreReachedSpec) JF.own started (by kernel_rfl) Tryz.func7
  (witness_row_at (enc:=enc) (C:=Tryz.checked) false (laidWorld os) #[.agg #[.int .u8 0,.slice none 0 0,.slice none 0 0,.int .u8 0,.slice none 0 0],.agg #[.int .u8 0,.slice none 0 0,.int .u8 0],.slice none 0 0] rfl (by kernel_rfl) (by kernel_rfl) (by kernel_rfl)
   (OpenSpec.preRow_of_cond 8 hx (by kernel_rfl) (fun k hk=>by cases hk;kernel_rfl) (by kernel_rfl) (laid_met os))) ?_
 intro W base args ds gs before hval0 hW _ hcond _ hL hSh _
 have hval:∀ (j:Nat) t v,Tryz.f7.params[j]?=some t→args[j]?=some v→Value.okWide Tryz.prog W .any base t v:=hval0
 have hW':=hW
 obtain ⟨p,q,hA0,hV,rfl,_,_⟩:=hW
 have hA:DataW.TrodAll enc Tryz.prog W 0 (fun _=>true) true Tryz.f7.params.toList args.toList ds p:=hA0
 rw [Tryz.params7] at hA hval
 obtain ⟨v0,v1,v2,d0,d1,d2,p0,p1,p2,rfl,rfl,rfl,h0,h1,h2⟩:=trodAll_three hA
 obtain ⟨rfl,rfl⟩:=trodVars_none hV
 have hk:Rows.uptoSmall H _=true:=hcond _ rfl
 have hT:=tabW hL
 obtain ⟨n0,h0⟩:=h0
 obtain ⟨za0,zb0,va0,vb0,vc0,la0,lb0,lc0,da0,db0,dc0,rfl,ha0,hb0,hc0⟩:=rawT_val rawTTy (hval 0 24 v0 rfl rfl) h0
 obtain ⟨n1,h1⟩:=h1
 obtain ⟨za1,zb1,va1,la1,da1,rfl,ha1⟩:=rawD_val rawDTy (hval 1 26 v1 rfl rfl) h1
 obtain ⟨a2,len2,cap2,rfl⟩:=okWide_slice Tryz.underlying22 (hval 2 22 v2 rfl rfl)
 obtain ⟨n2,h2⟩:=h2
 obtain ⟨b2,hb2,hp2⟩:=bytes_rowN Tryz.underlying22 Tryz.underlying5 cellsU8 h2
 refine (law_calls (limr_ok ha0.1 hb0.1 hc0.1 (Nat.le_trans (Bulk.len_deep (ha0.2.1) (ha0.2.2) (by simp) hk) (by decide)) (Nat.le_trans (Bulk.len_deep (hb0.2.1) (hb0.2.2) (by simp) hk) (by decide)) (Nat.le_trans (Bulk.len_deep (hc0.2.1) (hc0.2.2) (by simp) hk) (by decide)) ha1.1 (Nat.le_trans (Bulk.len_deep (ha1.2.1) (ha1.2.2) (by simp) hk) (by decide)) hb2 (Nat.le_trans (Bulk.len_le hp2 (by simp) hk) (by decide)) hT)).mono fun e W' ⟨he,hg⟩=>⟨_,he,?_⟩
 exact post_law (s:=Rows.transducerImagesAreReachedSpec) JF.j2 (by kernel_rfl) rfl Tryz.underlying4 rfl hW' rfl hg
theorem j1:Rows.transducerImagesAreReachedUptoRow.wf (OpenSpec.ofChange (Rows.OpenSpec.upto Rows.transducerImagesAreReachedSpec).bare)=true:=by kernel_rfl
theorem j4:Tryz.f7.params.all (Tryz.prog.readableRec ·)=true:=by kernel_rfl
theorem j5:namedTie Tryz.prog Rows.transducerImagesAreReachedUptoRow.named (Rows.OpenSpec.upto Rows.transducerImagesAreReachedSpec).bare.vars=true:=by kernel_rfl
theorem j6:(Rows.transducerImagesAreReachedUptoRow.stops == [])=true:=by kernel_rfl
theorem j8:(Rows.transducerImagesAreReachedUptoRow.knobs == [])=true:=by kernel_rfl
theorem j10:(Rows.transducerImagesAreReachedUptoRow.inPlace == Tryz.prog.inPlace 7)=true:=by kernel_rfl
theorem j11:(Rows.transducerImagesAreReachedUptoRow.unfollowed == Tryz.prog.unfollowed 7)=true:=by kernel_rfl
theorem j12:(Rows.transducerImagesAreReachedUptoRow.recurses == Tryz.prog.recurses 7)=true:=by kernel_rfl
theorem j13:(Rows.transducerImagesAreReachedUptoRow.named == Tryz.prog.varsNamed 7)=true:=by kernel_rfl
theorem j14:(Rows.transducerImagesAreReachedUptoRow.maps == (Tryz.f7.params.toList++(Rows.OpenSpec.upto Rows.transducerImagesAreReachedSpec).bare.plain.varTypes Tryz.prog).any (Tryz.prog.mapsRec ·))=true:=by kernel_rfl
theorem j15:(Rows.transducerImagesAreReachedUptoRow.ifaces == (Tryz.f7.params.toList++(Rows.OpenSpec.upto Rows.transducerImagesAreReachedSpec).bare.plain.varTypes Tryz.prog).any (Tryz.prog.ifacesRec ·))=true:=by kernel_rfl
theorem j16:(Rows.transducerImagesAreReachedUptoRow.mapsOut == Tryz.prog.mapsAmong Tryz.f7.resultTypes.toList)=true:=by kernel_rfl
theorem j17:(Rows.transducerImagesAreReachedUptoRow.loops == (Tryz.f7.params.toList++(Rows.OpenSpec.upto Rows.transducerImagesAreReachedSpec).bare.plain.varTypes Tryz.prog).any (Tryz.prog.loopsFrom ·))=true:=by kernel_rfl
theorem j17b:(Rows.transducerImagesAreReachedUptoRow.wideKeys == (Tryz.f7.params.toList++(Rows.OpenSpec.upto Rows.transducerImagesAreReachedSpec).bare.plain.varTypes Tryz.prog++Tryz.f7.resultTypes.toList).any (Tryz.prog.wideKeysFrom ·))=true:=by kernel_rfl
theorem j18:(Rows.OpenSpec.upto Rows.transducerImagesAreReachedSpec).bare.vars.all (Tryz.prog.varReadable ·)=true:=by kernel_rfl
theorem j19:Tryz.f7.resultTypes.all (fun t=>Tryz.prog.readableRec t && decide (t<Tryz.prog.types.size))=true:=by kernel_rfl
theorem j20:(Rows.transducerImagesAreReachedUptoRow.ifacesOut == Tryz.f7.resultTypes.toList.any (Tryz.prog.ifacesRec ·))=true:=by kernel_rfl
theorem j21:(Rows.transducerImagesAreReachedUptoRow.loopsOut == Tryz.f7.resultTypes.toList.any (Tryz.prog.loopsFrom ·))=true:=by kernel_rfl
theorem j23:Rows.transducerImagesAreReachedUptoRow.shortTexts.isNone=true:=by kernel_rfl
theorem j25:(Rows.transducerImagesAreReachedUptoRow.kinds == (if Rows.transducerImagesAreReachedUptoRow.domain.isEmpty then [] else Tryz.f7.params.toList.map fun t=>match Tryz.prog.underlying t with | some (.int k)=>some k | _=>none))=true:=by kernel_rfl
theorem j26:(Rows.transducerImagesAreReachedUptoRow.pinned == Rows.transducerImagesAreReachedUptoRow.pinnedBy)=true:=by kernel_rfl
theorem j27:(Rows.transducerImagesAreReachedUptoRow.veiled == (Tryz.f7.params.toList++(Rows.OpenSpec.upto Rows.transducerImagesAreReachedSpec).bare.plain.varTypes Tryz.prog++Tryz.f7.resultTypes.toList).any (Tryz.prog.veiledRec ·))=true:=by kernel_rfl
theorem j28:Rows.transducerImagesAreReachedUptoRow.veiledFits Tryz.prog Tryz.f7.params.toList (Tryz.f7.params.toList++(Rows.OpenSpec.upto Rows.transducerImagesAreReachedSpec).bare.plain.varTypes Tryz.prog++Tryz.f7.resultTypes.toList)=true:=by kernel_rfl
theorem j22:(Rows.transducerImagesAreReachedUptoRow.plainKeys == Tryz.prog.plainKeys)=true:=by
 rw [show Rows.transducerImagesAreReachedUptoRow.plainKeys=Rows.transducerDomainUptoRow.plainKeys by kernel_rfl];exact JF.j22
theorem j24b:(Rows.transducerImagesAreReachedUptoRow.lifted == Tryz.prog.liftsFinal)=true:=by
 rw [show Rows.transducerImagesAreReachedUptoRow.lifted=Rows.transducerDomainUptoRow.lifted by kernel_rfl];exact JF.j24b
theorem j24c:(Tryz.prog.make == some Rows.transducerImagesAreReachedUptoRow.make)=true:=by
 rw [show Rows.transducerImagesAreReachedUptoRow.make=Rows.transducerDomainUptoRow.make by kernel_rfl];exact JF.j24c
set_option maxRecDepth 10000 in
theorem closed:joinedFacts Tryz.prog 7 Tryz.f7 (Rows.OpenSpec.upto Rows.transducerImagesAreReachedSpec).bare Rows.transducerImagesAreReachedUptoRow=true:=by
 unfold joinedFacts
 simp only [Bool.and_eq_true]
 exact ⟨⟨⟨⟨⟨⟨⟨⟨⟨⟨⟨⟨⟨⟨⟨⟨⟨⟨⟨⟨⟨⟨⟨⟨⟨⟨⟨⟨⟨⟨⟨j1,JF.j2⟩,JF.j3⟩,j4⟩,j5⟩,j6⟩,JF.j7⟩,j8⟩,JF.j9⟩,j10⟩,j11⟩,j12⟩,j13⟩,j14⟩,j15⟩,j16⟩,j17⟩,j17b⟩,j18⟩,j19⟩,j20⟩,j21⟩,j22⟩,j23⟩,JF.j23b⟩,JF.j24⟩,j24b⟩,j24c⟩,j25⟩,j26⟩,j27⟩,j28⟩
theorem named : Tryz.prog.funcNamed "univocal/univocallaw07.TransducerImagesAreReached" = some 7 := by kernel_rfl
theorem inst:Tryz.f7.isInstance Tryz.prog Rows.transducerImagesAreReachedUptoRow.origin Rows.transducerImagesAreReachedUptoRow.targs:=of_decide_eq_true (by kernel_rfl)
theorem wraps:Tryz.f7.isWrapper Tryz.prog Rows.transducerImagesAreReachedUptoRow.wrapper Rows.transducerImagesAreReachedUptoRow.mainSum:=by
 unfold Func.isWrapper;first|(rw [if_pos (by decide +kernel)];kernel_rfl)|(rw [if_neg (by decide +kernel)];exact ⟨rfl,rfl⟩)
theorem said:Rows.TransducerImagesAreReachedUptoSaid :=
 OpenClaim.holds_of_cond 7 Tryz.f7 rfl rfl rfl rfl rfl rfl rfl ⟨rfl,rfl,rfl,rfl,rfl⟩ rfl rfl rfl rfl rfl named Tryz.func7 closed inst wraps
  (fun os started H enc _ F=>by rw [OpenClaim.pre_eq_preRow];exact lifted os started H enc F)
theorem plain (f : FuncId) (fn : Func) (hf : Tryz.pinned.checked.prog.funcNamed "univocal/univocallaw07.TransducerImagesAreReached" = some f) (hfn : Tryz.pinned.checked.prog.funcs[f]? = some fn) :
  false=Tryz.pinned.checked.prog.looks []∧∀ (j:Nat) t,fn.params[j]?=some t→Tryz.pinned.checked.prog.wantsStandIn t=false:=by
 obtain rfl : f = 7 := Option.some.inj ((show Tryz.pinned.checked.prog.funcNamed "univocal/univocallaw07.TransducerImagesAreReached" = some 7 from named).symm.trans hf) |>.symm
 obtain rfl:fn=Tryz.f7:=(Option.some.inj (Tryz.func7.symm.trans hfn)).symm
 refine ⟨by kernel_rfl,fun j t ht=>?_⟩
 rw [Tryz.params7] at ht
 have hm:=Array.mem_of_getElem? ht
 simp only [List.mem_toArray,List.mem_cons,List.not_mem_nil,or_false] at hm
 rcases hm with rfl | rfl | rfl
 all_goals exact (show Tryz.prog.wantsStandIn _=false by kernel_rfl)
theorem proved:Rows.TransducerImagesAreReachedUptoCardSaid :=
 Claim7.holds_tied_plain_at .later [] _ _ _ _ said (fun _ h=>by cases h) JF.wT (fun _ h=>by cases h) transducerImagesAreReachedUpto_row_tie rfl ⟨rfl,rfl⟩ JF.mT rfl plain JF.gT
end Go.Proofs.YtmohebpaonkaeaaGreatDoor.transducerImagesAreReached
