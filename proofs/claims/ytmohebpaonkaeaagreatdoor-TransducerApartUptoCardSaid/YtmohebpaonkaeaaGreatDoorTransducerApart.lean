/- The law 'TransducerApart' holds at every input that holds at most 1048576 values and letters: the call returns true, and each argument reads behind the call as it read before. The library's table of bit positions is tied to the program's text. -/
import Derived.Test.YtmohebpaonkaeaaGreatDoorLaw10
import Derived.Test.YtmohebpaonkaeaaGreatDoorJF
import Derived.Test.YtmohebpaonkaeaaGreatDoorCards
import Derived.Test.YtmohebpaonkaeaaGreatDoorTie
import Derived.SevenTiedAt
namespace Go.Proofs.YtmohebpaonkaeaaGreatDoor.transducerApart
open Go Go.Ex Go.ChangeShapes Go.WideShapes Go.ChangeAt Go.RowKit
noncomputable def rawTFs:Array Field:=match Tryz.prog.underlying 24 with
 | some (.struct fs)=>fs
 | _=>#[]
noncomputable def rawTTy:RawTTy Tryz.prog 24 :=
 ⟨fun i=>rawTFs.getD i.val default,5,by kernel_rfl,by kernel_rfl,⟨by kernel_rfl,by kernel_rfl,by kernel_rfl,by kernel_rfl,by kernel_rfl⟩,⟨by kernel_rfl,by kernel_rfl,by kernel_rfl,by kernel_rfl,by kernel_rfl⟩,⟨by kernel_rfl,by kernel_rfl,by kernel_rfl,by kernel_rfl,by kernel_rfl⟩,by kernel_rfl,by kernel_rfl⟩
theorem cellsU8:Tryz.prog.cellsOf 5=1:=by kernel_rfl
theorem cellsT:Tryz.prog.cellsOf 267=64:=by kernel_rfl
theorem gTab : Tryz.prog.globalNamed "math/bits.deBruijn64tab" = some 0 := by kernel_rfl
theorem gTabType:(Tryz.prog.globals[0]?).map (·.type)=some 267:=by kernel_rfl
theorem table {W : World} (h : laidMetH Tryz.prog Rows.transducerApartUptoRow.laid W) : Lib.TabIs Tryz.prog W "math/bits.deBruijn64tab" .u8 (tab64.map fun n : Nat => (n : Int)) :=
 Lib.tabIs_of_head (rest:=_) gTab gTabType Tryz.underlying267 Tryz.underlying5 cellsU8 cellsT h
theorem tabW {W:World} (h:laidMetH Tryz.prog Rows.transducerApartUptoRow.laid W):Tab (Ex.whole W):=fun i hi=>by
 rw [gcell_whole,(table h).cell gTab i (by simpa [tab64] using hi)]
 congr 2
 simp only [List.getD_eq_getElem?_getD,List.getElem?_map]
 rw [List.getElem?_eq_getElem (by exact hi)];rfl
def put (cs:Array Value):Obj→Obj
 | .cells _ t frozen=>.cells cs t frozen
 | o=>o
noncomputable def laidWorld (os:Os):World :=
 { World.holding Tryz.prog os ⟨#[],#[],[]⟩ with heap:=(World.holding Tryz.prog os ⟨#[],#[],[]⟩).heap.modify 0 (put #[.int .u8 0,.int .u8 1,.int .u8 56,.int .u8 2,.int .u8 57,.int .u8 49,.int .u8 28,.int .u8 3,.int .u8 61,.int .u8 58,.int .u8 42,.int .u8 50,.int .u8 38,.int .u8 29,.int .u8 17,.int .u8 4,.int .u8 62,.int .u8 47,.int .u8 59,.int .u8 36,.int .u8 45,.int .u8 43,.int .u8 51,.int .u8 22,.int .u8 53,.int .u8 39,.int .u8 33,.int .u8 30,.int .u8 24,.int .u8 18,.int .u8 12,.int .u8 5,.int .u8 63,.int .u8 55,.int .u8 48,.int .u8 27,.int .u8 60,.int .u8 41,.int .u8 37,.int .u8 16,.int .u8 46,.int .u8 35,.int .u8 44,.int .u8 21,.int .u8 52,.int .u8 32,.int .u8 23,.int .u8 11,.int .u8 54,.int .u8 26,.int .u8 40,.int .u8 15,.int .u8 34,.int .u8 20,.int .u8 31,.int .u8 10,.int .u8 25,.int .u8 14,.int .u8 19,.int .u8 9,.int .u8 13,.int .u8 8,.int .u8 7,.int .u8 6]) }
theorem laid_met (os:Os):laidMet Tryz.prog Rows.transducerApartUptoRow.laid ((laidWorld os).forCall (fun _ _=>0) ⟨#[],#[.agg #[.int .u8 0,.slice none 0 0,.slice none 0 0,.int .u8 0,.slice none 0 0],.agg #[.int .u8 0,.slice none 0 0,.slice none 0 0,.int .u8 0,.slice none 0 0],.slice none 0 0],[]⟩).memory :=
 laidMet_of_run' 8 (by kernel_rfl) (by kernel_rfl)
theorem reads (os:Os) {H:Type} (enc:TypeId×Value→H):∃ places,DataW.whole enc Tryz.prog ((laidWorld os).forCall (fun _ _=>0) ⟨#[],#[.agg #[.int .u8 0,.slice none 0 0,.slice none 0 0,.int .u8 0,.slice none 0 0],.agg #[.int .u8 0,.slice none 0 0,.slice none 0 0,.int .u8 0,.slice none 0 0],.slice none 0 0],[]⟩).memory Tryz.f10.params.toList Rows.transducerApartSpec.vars false (#[.agg #[.int .u8 0,.slice none 0 0,.slice none 0 0,.int .u8 0,.slice none 0 0],.agg #[.int .u8 0,.slice none 0 0,.slice none 0 0,.int .u8 0,.slice none 0 0],.slice none 0 0]:Array Value).toList 8=some ([.agg [.lit (.int .u8 0),.nil,.nil,.lit (.int .u8 0),.nil],.agg [.lit (.int .u8 0),.nil,.nil,.lit (.int .u8 0),.nil],.nil],[],places) :=
 ⟨[],by kernel_rfl⟩
set_option maxRecDepth 100000 in
theorem lifted (os:Os) (started:os.Started) (H:Type) (enc:TypeId×Value→H) (F:Stop.Interp) :
  ReturnsInHanded {} Tryz.checked os 10 .any ((Rows.OpenSpec.upto Rows.transducerApartSpec).preRow enc Tryz.prog Tryz.f10 Rows.transducerApartUptoRow.domain false Rows.transducerApartUptoRow.laid) (((Rows.OpenSpec.upto Rows.transducerApartSpec).at F).post enc Tryz.prog Tryz.f10 false true false false):=by
 obtain ⟨places,hx⟩:=reads os enc
 refine returnsInHanded_of_row (C:=Tryz.checked) (s:=Rows.OpenSpec.upto Rows.transducerApartSpec) JF.own started (by kernel_rfl) Tryz.func10
  (witness_row_at (enc:=enc) (C:=Tryz.checked) false (laidWorld os) #[.agg #[.int .u8 0,.slice none 0 0,.slice none 0 0,.int .u8 0,.slice none 0 0],.agg #[.int .u8 0,.slice none 0 0,.slice none 0 0,.int .u8 0,.slice none 0 0],.slice none 0 0] rfl (by kernel_rfl) (by kernel_rfl) (by kernel_rfl)
   (OpenSpec.preRow_of_cond 8 hx (by kernel_rfl) (fun k hk=>by cases hk;kernel_rfl) (by kernel_rfl) (laid_met os))) ?_
 intro W base args ds gs before hval0 hW _ hcond _ hL hSh _
 have hval:∀ (j:Nat) t v,Tryz.f10.params[j]?=some t→args[j]?=some v→Value.okWide Tryz.prog W .any base t v:=hval0
 have hW':=hW
 obtain ⟨p,q,hA0,hV,rfl,_,_⟩:=hW
 have hA:DataW.TrodAll enc Tryz.prog W 0 (fun _=>true) true Tryz.f10.params.toList args.toList ds p:=hA0
 rw [Tryz.params10] at hA hval
 obtain ⟨v0,v1,v2,d0,d1,d2,p0,p1,p2,rfl,rfl,rfl,h0,h1,h2⟩:=trodAll_three hA
 obtain ⟨rfl,rfl⟩:=trodVars_none hV
 have hk:Rows.uptoSmall H _=true:=hcond _ rfl
 have hT:=tabW hL
 obtain ⟨n0,h0⟩:=h0
 obtain ⟨za0,zb0,va0,vb0,vc0,la0,lb0,lc0,da0,db0,dc0,rfl,ha0,hb0,hc0⟩:=rawT_val rawTTy (hval 0 24 v0 rfl rfl) h0
 obtain ⟨n1,h1⟩:=h1
 obtain ⟨za1,zb1,va1,vb1,vc1,la1,lb1,lc1,da1,db1,dc1,rfl,ha1,hb1,hc1⟩:=rawT_val rawTTy (hval 1 24 v1 rfl rfl) h1
 obtain ⟨a2,len2,cap2,rfl⟩:=okWide_slice Tryz.underlying22 (hval 2 22 v2 rfl rfl)
 obtain ⟨n2,h2⟩:=h2
 obtain ⟨b2,hb2,hp2⟩:=bytes_rowN Tryz.underlying22 Tryz.underlying5 cellsU8 h2
 refine (law_calls (lapt_ok ha0.1 hb0.1 hc0.1 (Nat.le_trans (Bulk.len_deep (ha0.2.1) (ha0.2.2) (by simp) hk) (by decide)) (Nat.le_trans (Bulk.len_deep (hb0.2.1) (hb0.2.2) (by simp) hk) (by decide)) (Nat.le_trans (Bulk.len_deep (hc0.2.1) (hc0.2.2) (by simp) hk) (by decide)) ha1.1 hb1.1 hc1.1 (Nat.le_trans (Bulk.len_deep (ha1.2.1) (ha1.2.2) (by simp) hk) (by decide)) (Nat.le_trans (Bulk.len_deep (hb1.2.1) (hb1.2.2) (by simp) hk) (by decide)) (Nat.le_trans (Bulk.len_deep (hc1.2.1) (hc1.2.2) (by simp) hk) (by decide)) hb2 (Nat.le_trans (Bulk.len_le hp2 (by simp) hk) (by decide)) hT)).mono fun e W' ⟨he,hg⟩=>⟨_,he,?_⟩
 exact post_law (s:=Rows.transducerApartSpec) JF.j2 (by kernel_rfl) rfl Tryz.underlying4 rfl hW' rfl hg
theorem j1:Rows.transducerApartUptoRow.wf (OpenSpec.ofChange (Rows.OpenSpec.upto Rows.transducerApartSpec).bare)=true:=by kernel_rfl
theorem j4:Tryz.f10.params.all (Tryz.prog.readableRec ·)=true:=by kernel_rfl
theorem j5:namedTie Tryz.prog Rows.transducerApartUptoRow.named (Rows.OpenSpec.upto Rows.transducerApartSpec).bare.vars=true:=by kernel_rfl
theorem j6:(Rows.transducerApartUptoRow.stops == [])=true:=by kernel_rfl
theorem j8:(Rows.transducerApartUptoRow.knobs == [])=true:=by kernel_rfl
theorem j10:(Rows.transducerApartUptoRow.inPlace == Tryz.prog.inPlace 10)=true:=by kernel_rfl
theorem j11:(Rows.transducerApartUptoRow.unfollowed == Tryz.prog.unfollowed 10)=true:=by kernel_rfl
theorem j12:(Rows.transducerApartUptoRow.recurses == Tryz.prog.recurses 10)=true:=by kernel_rfl
theorem j13:(Rows.transducerApartUptoRow.named == Tryz.prog.varsNamed 10)=true:=by kernel_rfl
theorem j14:(Rows.transducerApartUptoRow.maps == (Tryz.f10.params.toList++(Rows.OpenSpec.upto Rows.transducerApartSpec).bare.plain.varTypes Tryz.prog).any (Tryz.prog.mapsRec ·))=true:=by kernel_rfl
theorem j15:(Rows.transducerApartUptoRow.ifaces == (Tryz.f10.params.toList++(Rows.OpenSpec.upto Rows.transducerApartSpec).bare.plain.varTypes Tryz.prog).any (Tryz.prog.ifacesRec ·))=true:=by kernel_rfl
theorem j16:(Rows.transducerApartUptoRow.mapsOut == Tryz.prog.mapsAmong Tryz.f10.resultTypes.toList)=true:=by kernel_rfl
theorem j17:(Rows.transducerApartUptoRow.loops == (Tryz.f10.params.toList++(Rows.OpenSpec.upto Rows.transducerApartSpec).bare.plain.varTypes Tryz.prog).any (Tryz.prog.loopsFrom ·))=true:=by kernel_rfl
theorem j17b:(Rows.transducerApartUptoRow.wideKeys == (Tryz.f10.params.toList++(Rows.OpenSpec.upto Rows.transducerApartSpec).bare.plain.varTypes Tryz.prog++Tryz.f10.resultTypes.toList).any (Tryz.prog.wideKeysFrom ·))=true:=by kernel_rfl
theorem j18:(Rows.OpenSpec.upto Rows.transducerApartSpec).bare.vars.all (Tryz.prog.varReadable ·)=true:=by kernel_rfl
theorem j19:Tryz.f10.resultTypes.all (fun t=>Tryz.prog.readableRec t && decide (t<Tryz.prog.types.size))=true:=by kernel_rfl
theorem j20:(Rows.transducerApartUptoRow.ifacesOut == Tryz.f10.resultTypes.toList.any (Tryz.prog.ifacesRec ·))=true:=by kernel_rfl
theorem j21:(Rows.transducerApartUptoRow.loopsOut == Tryz.f10.resultTypes.toList.any (Tryz.prog.loopsFrom ·))=true:=by kernel_rfl
theorem j23:Rows.transducerApartUptoRow.shortTexts.isNone=true:=by kernel_rfl
theorem j25:(Rows.transducerApartUptoRow.kinds == (if Rows.transducerApartUptoRow.domain.isEmpty then [] else Tryz.f10.params.toList.map fun t=>match Tryz.prog.underlying t with | some (.int k)=>some k | _=>none))=true:=by kernel_rfl
theorem j26:(Rows.transducerApartUptoRow.pinned == Rows.transducerApartUptoRow.pinnedBy)=true:=by kernel_rfl
theorem j27:(Rows.transducerApartUptoRow.veiled == (Tryz.f10.params.toList++(Rows.OpenSpec.upto Rows.transducerApartSpec).bare.plain.varTypes Tryz.prog++Tryz.f10.resultTypes.toList).any (Tryz.prog.veiledRec ·))=true:=by kernel_rfl
theorem j28:Rows.transducerApartUptoRow.veiledFits Tryz.prog Tryz.f10.params.toList (Tryz.f10.params.toList++(Rows.OpenSpec.upto Rows.transducerApartSpec).bare.plain.varTypes Tryz.prog++Tryz.f10.resultTypes.toList)=true:=by kernel_rfl
theorem j22:(Rows.transducerApartUptoRow.plainKeys == Tryz.prog.plainKeys)=true:=by
 rw [show Rows.transducerApartUptoRow.plainKeys=Rows.transducerDomainUptoRow.plainKeys by kernel_rfl];exact JF.j22
theorem j24b:(Rows.transducerApartUptoRow.lifted == Tryz.prog.liftsFinal)=true:=by
 rw [show Rows.transducerApartUptoRow.lifted=Rows.transducerDomainUptoRow.lifted by kernel_rfl];exact JF.j24b
theorem j24c:(Tryz.prog.make == some Rows.transducerApartUptoRow.make)=true:=by
 rw [show Rows.transducerApartUptoRow.make=Rows.transducerDomainUptoRow.make by kernel_rfl];exact JF.j24c
set_option maxRecDepth 10000 in
theorem closed:joinedFacts Tryz.prog 10 Tryz.f10 (Rows.OpenSpec.upto Rows.transducerApartSpec).bare Rows.transducerApartUptoRow=true:=by
 unfold joinedFacts
 simp only [Bool.and_eq_true]
 exact ⟨⟨⟨⟨⟨⟨⟨⟨⟨⟨⟨⟨⟨⟨⟨⟨⟨⟨⟨⟨⟨⟨⟨⟨⟨⟨⟨⟨⟨⟨⟨j1,JF.j2⟩,JF.j3⟩,j4⟩,j5⟩,j6⟩,JF.j7⟩,j8⟩,JF.j9⟩,j10⟩,j11⟩,j12⟩,j13⟩,j14⟩,j15⟩,j16⟩,j17⟩,j17b⟩,j18⟩,j19⟩,j20⟩,j21⟩,j22⟩,j23⟩,JF.j23b⟩,JF.j24⟩,j24b⟩,j24c⟩,j25⟩,j26⟩,j27⟩,j28⟩
theorem named : Tryz.prog.funcNamed "univocal/univocallaw07.TransducerApart" = some 10 := by kernel_rfl
theorem inst:Tryz.f10.isInstance Tryz.prog Rows.transducerApartUptoRow.origin Rows.transducerApartUptoRow.targs:=of_decide_eq_true (by kernel_rfl)
theorem wraps:Tryz.f10.isWrapper Tryz.prog Rows.transducerApartUptoRow.wrapper Rows.transducerApartUptoRow.mainSum:=by
 unfold Func.isWrapper;first|(rw [if_pos (by decide +kernel)];kernel_rfl)|(rw [if_neg (by decide +kernel)];exact ⟨rfl,rfl⟩)
theorem said:Rows.TransducerApartUptoSaid :=
 OpenClaim.holds_of_cond 10 Tryz.f10 rfl rfl rfl rfl rfl rfl rfl ⟨rfl,rfl,rfl,rfl,rfl⟩ rfl rfl rfl rfl rfl named Tryz.func10 closed inst wraps
  (fun os started H enc _ F=>by rw [OpenClaim.pre_eq_preRow];exact lifted os started H enc F)
theorem plain (f : FuncId) (fn : Func) (hf : Tryz.pinned.checked.prog.funcNamed "univocal/univocallaw07.TransducerApart" = some f) (hfn : Tryz.pinned.checked.prog.funcs[f]? = some fn) :
  false=Tryz.pinned.checked.prog.looks []∧∀ (j:Nat) t,fn.params[j]?=some t→Tryz.pinned.checked.prog.wantsStandIn t=false:=by
 obtain rfl : f = 10 := Option.some.inj ((show Tryz.pinned.checked.prog.funcNamed "univocal/univocallaw07.TransducerApart" = some 10 from named).symm.trans hf) |>.symm
 obtain rfl:fn=Tryz.f10:=(Option.some.inj (Tryz.func10.symm.trans hfn)).symm
 refine ⟨by kernel_rfl,fun j t ht=>?_⟩
 rw [Tryz.params10] at ht
 have hm:=Array.mem_of_getElem? ht
 simp only [List.mem_toArray,List.mem_cons,List.not_mem_nil,or_false] at hm
 rcases hm with rfl | rfl | rfl
 all_goals exact (show Tryz.prog.wantsStandIn _=false by kernel_rfl)
theorem proved:Rows.TransducerApartUptoCardSaid :=
 Claim7.holds_tied_plain_at .later [] _ _ _ _ said (fun _ h=>by cases h) JF.wT (fun _ h=>by cases h) transducerApartUpto_row_tie rfl ⟨rfl,rfl⟩ JF.mT rfl plain JF.gT
end Go.Proofs.YtmohebpaonkaeaaGreatDoor.transducerApart
