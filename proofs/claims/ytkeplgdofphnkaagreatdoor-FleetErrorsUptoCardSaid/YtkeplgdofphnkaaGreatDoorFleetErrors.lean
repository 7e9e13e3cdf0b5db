/- FleetErrors holds at every input of at most 1048576 values and letters: the call returns true, and its arguments read as before; the library's table of bit positions is tied to the text. -/
import Derived.Test.YtkeplgdofphnkaaGreatDoorLaw9
import Derived.Test.YtkeplgdofphnkaaGreatDoorJF
import Derived.Test.YtkeplgdofphnkaaGreatDoorCards
import Derived.Test.YtkeplgdofphnkaaGreatDoorTie
import Derived.SevenTiedAt
namespace Go.Proofs.YtkeplgdofphnkaaGreatDoor.fleetErrors
open Go Go.Ex Go.ChangeShapes Go.WideShapes Go.ChangeAt Go.RowKit
noncomputable def rf:Array Field:=match Tryz.prog.underlying 28 with
 | some (.struct fs)=>fs
 | _=>#[]
noncomputable def rt:RawTy Tryz.prog 28 :=
 ⟨fun i=>rf.getD i.val default,5,5,25,by kernel_rfl,by kernel_rfl,⟨by kernel_rfl,by kernel_rfl,by kernel_rfl,by kernel_rfl,by kernel_rfl⟩,⟨by kernel_rfl,by kernel_rfl,by kernel_rfl,by kernel_rfl,by kernel_rfl⟩,⟨by kernel_rfl,by kernel_rfl,by kernel_rfl,by kernel_rfl,by kernel_rfl⟩,⟨by kernel_rfl,by kernel_rfl,by kernel_rfl⟩,⟨by kernel_rfl,by kernel_rfl,by kernel_rfl⟩⟩
structure Bt (P:Program) (t:TypeId) where
 f:Fin 3→Field
 ht:P.underlying t=some (.struct #[f 0,f 1,f 2])
 ct:P.cellsOf t=3
 off:(f 0).offset=0∧(f 1).offset=1∧(f 2).offset=2
 cel:P.cellsOf (f 0).type=1∧P.cellsOf (f 1).type=1∧P.cellsOf (f 2).type=1
 und:P.underlying (f 0).type=some (.int .u8)∧P.underlying (f 1).type=some (.int .u8)∧P.underlying (f 2).type=some (.int .i64)
theorem bv {H:Type} {enc:TypeId×Value→H} {P:Program} {W:World} {t:TypeId} {r:Reach} {b0:Nat} {v:Value} {fuel:Nat} {x:DataW H×List MemPlace} (T:Bt P t) (hv:Value.okWide P W r b0 t v) (h:DataW.trod enc P W 0 (fun _=>true) true fuel t v.cells.toList=some x) :
  ∃ (a b:UInt8) (z:Int),(Lit.int .i64 z).wf=true∧v=.agg #[.int .u8 (a.toNat:Int),.int .u8 (b.toNat:Int),.int .i64 z]:=by
 obtain ⟨f,ht,ct,⟨o0,o1,o2⟩,⟨c0,c1,c2⟩,u0,u1,u2⟩:=T
 have hagg:∃ cs,v=.agg cs:=by
  simp only [Value.okWide,ht] at hv
  cases v<;>simp_all
 obtain ⟨⟨ls⟩,rfl⟩:=hagg
 obtain ⟨xs,m,_,_,hl,hxl,hf⟩:=DataW.trod_struct ht h
 have hl2:ls.length=3:=hl.trans ct
 match ls,hl2 with
 | [a0,a1,a2],_ =>
  have g0:=hf 0 (f 0) rfl
  have g1:=hf 1 (f 1) rfl
  have g2:=hf 2 (f 2) rfl
  rw [o0,c0] at g0;rw [o1,c1] at g1;rw [o2,c2] at g2
  have hx:xs.length=3:=hxl
  obtain ⟨z0,rfl,w0⟩:=int_cell u0 (x:=xs[0]'(by omega)) (v:=a0) (by rw [← List.getElem?_eq_getElem];exact g0)
  obtain ⟨z1,rfl,w1⟩:=int_cell u1 (x:=xs[1]'(by omega)) (v:=a1) (by rw [← List.getElem?_eq_getElem];exact g1)
  obtain ⟨z2,rfl,w2⟩:=int_cell u2 (x:=xs[2]'(by omega)) (v:=a2) (by rw [← List.getElem?_eq_getElem];exact g2)
  obtain ⟨a,rfl⟩:=u8_of w0
  obtain ⟨b,rfl⟩:=u8_of w1
  exact ⟨a,b,z2,w2,rfl⟩
noncomputable def bf:Array Field:=match Tryz.prog.underlying 30 with
 | some (.struct fs)=>fs
 | _=>#[]
noncomputable def bt:Bt Tryz.prog 30 :=
 ⟨fun i=>bf.getD i.val default,by kernel_rfl,by kernel_rfl,⟨by kernel_rfl,by kernel_rfl,by kernel_rfl⟩,⟨by kernel_rfl,by kernel_rfl,by kernel_rfl⟩,⟨by kernel_rfl,by kernel_rfl,by kernel_rfl⟩⟩
theorem cU:Tryz.prog.cellsOf 5=1:=by kernel_rfl
theorem cT:Tryz.prog.cellsOf 354=64:=by kernel_rfl
theorem gTab : Tryz.prog.globalNamed "math/bits.deBruijn64tab" = some 0 := by kernel_rfl
theorem gT':(Tryz.prog.globals[0]?).map (·.type)=some 354:=by kernel_rfl
theorem table {W : World} (h : laidMetH Tryz.prog Rows.fleetErrorsUptoRow.laid W) : Lib.TabIs Tryz.prog W "math/bits.deBruijn64tab" .u8 (tab64.map fun n : Nat => (n : Int)) :=
 Lib.tabIs_of_head (rest:=_) gTab gT' Tryz.underlying354 Tryz.underlying5 cU cT h
theorem tabW {W:World} (h:laidMetH Tryz.prog Rows.fleetErrorsUptoRow.laid W):Tab (Ex.whole W):=fun i hi=>by
 rw [gcell_whole,(table h).cell gTab i (by simpa [tab64] using hi)]
 congr 2
 simp only [List.getD_eq_getElem?_getD,List.getElem?_map]
 rw [List.getElem?_eq_getElem (by exact hi)];rfl
def put (cs:Array Value):Obj→Obj
 | .cells _ t frozen=>.cells cs t frozen
 | o=>o
noncomputable def lW (os:Os):World :=
 { World.holding Tryz.prog os ⟨#[],#[],[]⟩ with heap:=(World.holding Tryz.prog os ⟨#[],#[],[]⟩).heap.modify 0 (put #[.int .u8 0,.int .u8 1,.int .u8 56,.int .u8 2,.int .u8 57,.int .u8 49,.int .u8 28,.int .u8 3,.int .u8 61,.int .u8 58,.int .u8 42,.int .u8 50,.int .u8 38,.int .u8 29,.int .u8 17,.int .u8 4,.int .u8 62,.int .u8 47,.int .u8 59,.int .u8 36,.int .u8 45,.int .u8 43,.int .u8 51,.int .u8 22,.int .u8 53,.int .u8 39,.int .u8 33,.int .u8 30,.int .u8 24,.int .u8 18,.int .u8 12,.int .u8 5,.int .u8 63,.int .u8 55,.int .u8 48,.int .u8 27,.int .u8 60,.int .u8 41,.int .u8 37,.int .u8 16,.int .u8 46,.int .u8 35,.int .u8 44,.int .u8 21,.int .u8 52,.int .u8 32,.int .u8 23,.int .u8 11,.int .u8 54,.int .u8 26,.int .u8 40,.int .u8 15,.int .u8 34,.int .u8 20,.int .u8 31,.int .u8 10,.int .u8 25,.int .u8 14,.int .u8 19,.int .u8 9,.int .u8 13,.int .u8 8,.int .u8 7,.int .u8 6]) }
theorem lM (os:Os):laidMet Tryz.prog Rows.fleetErrorsUptoRow.laid ((lW os).forCall (fun _ _=>0) ⟨#[],#[.agg #[.int .u8 0,.int .u8 0,.int .u8 0,.int .u8 0,.int .u8 0,.int .u8 0,.int .u8 0,.int .u8 0,.int .u8 0,.int .u8 0,.int .u32 0,.int .u16 0,.int .u16 0,.int .u16 0],.agg #[.int .u8 0,.int .u8 0,.int .i64 0],.agg #[.int .i64 0,.int .i64 0]],[]⟩).memory :=
 laidMet_of_run' 8 (by kernel_rfl) (by kernel_rfl)
theorem reads (os:Os) {H:Type} (enc:TypeId×Value→H):∃ places,DataW.whole enc Tryz.prog ((lW os).forCall (fun _ _=>0) ⟨#[],#[.agg #[.int .u8 0,.int .u8 0,.int .u8 0,.int .u8 0,.int .u8 0,.int .u8 0,.int .u8 0,.int .u8 0,.int .u8 0,.int .u8 0,.int .u32 0,.int .u16 0,.int .u16 0,.int .u16 0],.agg #[.int .u8 0,.int .u8 0,.int .i64 0],.agg #[.int .i64 0,.int .i64 0]],[]⟩).memory Tryz.f9.params.toList Rows.fleetErrorsSpec.vars false (#[.agg #[.int .u8 0,.int .u8 0,.int .u8 0,.int .u8 0,.int .u8 0,.int .u8 0,.int .u8 0,.int .u8 0,.int .u8 0,.int .u8 0,.int .u32 0,.int .u16 0,.int .u16 0,.int .u16 0],.agg #[.int .u8 0,.int .u8 0,.int .i64 0],.agg #[.int .i64 0,.int .i64 0]]:Array Value).toList 8=some ([.agg [.lit (.int .u8 0),.agg [.lit (.int .u8 0),.lit (.int .u8 0),.lit (.int .u8 0),.lit (.int .u8 0)],.agg [.lit (.int .u8 0),.lit (.int .u8 0),.lit (.int .u8 0),.lit (.int .u8 0),.lit (.int .u8 0)],.lit (.int .u32 0),.agg [.lit (.int .u16 0),.lit (.int .u16 0),.lit (.int .u16 0)]],.agg [.lit (.int .u8 0),.lit (.int .u8 0),.lit (.int .i64 0)],.agg [.lit (.int .i64 0),.lit (.int .i64 0)]],[],places) :=
 ⟨[],by kernel_rfl⟩
set_option maxRecDepth 100000 in
theorem lifted (os:Os) (started:os.Started) (H:Type) (enc:TypeId×Value→H) (F:Stop.Interp) :
  ReturnsInHanded {} Tryz.checked os 9 .any ((Rows.OpenSpec.upto Rows.fleetErrorsSpec).preRow enc Tryz.prog Tryz.f9 Rows.fleetErrorsUptoRow.domain false Rows.fleetErrorsUptoRow.laid) (((Rows.OpenSpec.upto Rows.fleetErrorsSpec).at F).post enc Tryz.prog Tryz.f9 false true false false):=by
 obtain ⟨places,hx⟩:=reads os enc
 refine returnsInHanded_of_row (C:=Tryz.checked) (s:=Rows.OpenSpec.upto Rows.fleetErrorsSpec) JF.own started (by kernel_rfl) Tryz.func9
  (witness_row_at (enc:=enc) (C:=Tryz.checked) false (lW os) #[.agg #[.int .u8 0,.int .u8 0,.int .u8 0,.int .u8 0,.int .u8 0,.int .u8 0,.int .u8 0,.int .u8 0,.int .u8 0,.int .u8 0,.int .u32 0,.int .u16 0,.int .u16 0,.int .u16 0],.agg #[.int .u8 0,.int .u8 0,.int .i64 0],.agg #[.int .i64 0,.int .i64 0]] rfl (by kernel_rfl) (by kernel_rfl) (by kernel_rfl)
   (OpenSpec.preRow_of_cond 8 hx (by kernel_rfl) (fun k hk=>by cases hk;kernel_rfl) (by kernel_rfl) (lM os))) ?_
 intro W base args ds gs before hval0 hW _ hcond _ hL hSh _
 have hval:∀ (j:Nat) t v,Tryz.f9.params[j]?=some t→args[j]?=some v→Value.okWide Tryz.prog W .any base t v:=hval0
 have hW':=hW
 obtain ⟨p,q,hA0,hV,rfl,_,_⟩:=hW
 have hA:DataW.TrodAll enc Tryz.prog W 0 (fun _=>true) true Tryz.f9.params.toList args.toList ds p:=hA0
 rw [Tryz.params9] at hA hval
 obtain ⟨v0,v1,v2,d0,d1,d2,p0,p1,p2,rfl,rfl,rfl,h0,h1,h2⟩:=trodAll_three hA
 obtain ⟨rfl,rfl⟩:=trodVars_none hV
 have hk:Rows.uptoSmall H _=true:=hcond _ rfl
 have hT:=tabW hL
 obtain ⟨n0,h0⟩:=h0
 obtain ⟨sz,q0,q1,q2,q3,m0,m1,m2,m3,m4,ed,r0,r1,r2,hed,hr0,hr1,hr2,rfl⟩:=raw_val rt (hval 0 28 v0 rfl rfl) h0
 obtain ⟨n1,h1⟩:=h1
 obtain ⟨x1,y1,z1,wz1,rfl⟩:=bv bt (hval 1 30 v1 rfl rfl) h1
 obtain ⟨n2,h2⟩:=h2
 obtain ⟨za2,zb2,rfl,wa2,wb2⟩:=pair_val Tryz.underlying31 Tryz.underlying3 (by kernel_rfl) (by kernel_rfl) (hval 2 31 v2 rfl rfl) h2
 obtain ⟨x2,hx2⟩:∃ z,z=za2:=⟨_,rfl⟩
 subst hx2
 obtain ⟨y2,hy2⟩:∃ z,z=zb2:=⟨_,rfl⟩
 subst hy2
 refine (law_calls (lerr_ok (hw:=x1) (at_:=y1) (by_:=z1) (z0:=x2) (z1:=y2) hT hed hr0 hr1 hr2)).mono fun e W' ⟨he,hg⟩=>⟨_,he,?_⟩
 exact post_law (s:=Rows.fleetErrorsSpec) JF.j2 (by kernel_rfl) rfl Tryz.underlying4 rfl hW' rfl hg
theorem j1:Rows.fleetErrorsUptoRow.wf (OpenSpec.ofChange (Rows.OpenSpec.upto Rows.fleetErrorsSpec).bare)=true:=by kernel_rfl
theorem j4:Tryz.f9.params.all (Tryz.prog.readableRec ·)=true:=by kernel_rfl
theorem j5:namedTie Tryz.prog Rows.fleetErrorsUptoRow.named (Rows.OpenSpec.upto Rows.fleetErrorsSpec).bare.vars=true:=by kernel_rfl
theorem j6:(Rows.fleetErrorsUptoRow.stops == [])=true:=by kernel_rfl
theorem j8:(Rows.fleetErrorsUptoRow.knobs == [])=true:=by kernel_rfl
theorem j10:(Rows.fleetErrorsUptoRow.inPlace == Tryz.prog.inPlace 9)=true:=by kernel_rfl
theorem j11:(Rows.fleetErrorsUptoRow.unfollowed == Tryz.prog.unfollowed 9)=true:=by kernel_rfl
theorem j12:(Rows.fleetErrorsUptoRow.recurses == Tryz.prog.recurses 9)=true:=by kernel_rfl
theorem j13:(Rows.fleetErrorsUptoRow.named == Tryz.prog.varsNamed 9)=true:=by kernel_rfl
theorem j14:(Rows.fleetErrorsUptoRow.maps == (Tryz.f9.params.toList++(Rows.OpenSpec.upto Rows.fleetErrorsSpec).bare.plain.varTypes Tryz.prog).any (Tryz.prog.mapsRec ·))=true:=by kernel_rfl
theorem j15:(Rows.fleetErrorsUptoRow.ifaces == (Tryz.f9.params.toList++(Rows.OpenSpec.upto Rows.fleetErrorsSpec).bare.plain.varTypes Tryz.prog).any (Tryz.prog.ifacesRec ·))=true:=by kernel_rfl
theorem j16:(Rows.fleetErrorsUptoRow.mapsOut == Tryz.prog.mapsAmong Tryz.f9.resultTypes.toList)=true:=by kernel_rfl
theorem j17:(Rows.fleetErrorsUptoRow.loops == (Tryz.f9.params.toList++(Rows.OpenSpec.upto Rows.fleetErrorsSpec).bare.plain.varTypes Tryz.prog).any (Tryz.prog.loopsFrom ·))=true:=by kernel_rfl
theorem j17b:(Rows.fleetErrorsUptoRow.wideKeys == (Tryz.f9.params.toList++(Rows.OpenSpec.upto Rows.fleetErrorsSpec).bare.plain.varTypes Tryz.prog++Tryz.f9.resultTypes.toList).any (Tryz.prog.wideKeysFrom ·))=true:=by kernel_rfl
theorem j18:(Rows.OpenSpec.upto Rows.fleetErrorsSpec).bare.vars.all (Tryz.prog.varReadable ·)=true:=by kernel_rfl
theorem j19:Tryz.f9.resultTypes.all (fun t=>Tryz.prog.readableRec t && decide (t<Tryz.prog.types.size))=true:=by kernel_rfl
theorem j20:(Rows.fleetErrorsUptoRow.ifacesOut == Tryz.f9.resultTypes.toList.any (Tryz.prog.ifacesRec ·))=true:=by kernel_rfl
theorem j21:(Rows.fleetErrorsUptoRow.loopsOut == Tryz.f9.resultTypes.toList.any (Tryz.prog.loopsFrom ·))=true:=by kernel_rfl
theorem j23:Rows.fleetErrorsUptoRow.shortTexts.isNone=true:=by kernel_rfl
theorem j25:(Rows.fleetErrorsUptoRow.kinds == (if Rows.fleetErrorsUptoRow.domain.isEmpty then [] else Tryz.f9.params.toList.map fun t=>match Tryz.prog.underlying t with | some (.int k)=>some k | _=>none))=true:=by kernel_rfl
theorem j26:(Rows.fleetErrorsUptoRow.pinned == Rows.fleetErrorsUptoRow.pinnedBy)=true:=by kernel_rfl
theorem j27:(Rows.fleetErrorsUptoRow.veiled == (Tryz.f9.params.toList++(Rows.OpenSpec.upto Rows.fleetErrorsSpec).bare.plain.varTypes Tryz.prog++Tryz.f9.resultTypes.toList).any (Tryz.prog.veiledRec ·))=true:=by kernel_rfl
theorem j28:Rows.fleetErrorsUptoRow.veiledFits Tryz.prog Tryz.f9.params.toList (Tryz.f9.params.toList++(Rows.OpenSpec.upto Rows.fleetErrorsSpec).bare.plain.varTypes Tryz.prog++Tryz.f9.resultTypes.toList)=true:=by kernel_rfl
theorem j22:(Rows.fleetErrorsUptoRow.plainKeys == Tryz.prog.plainKeys)=true:=by
 rw [show Rows.fleetErrorsUptoRow.plainKeys=Rows.fleetPathsUptoRow.plainKeys by kernel_rfl];exact JF.j22
theorem j24b:(Rows.fleetErrorsUptoRow.lifted == Tryz.prog.liftsFinal)=true:=by
 rw [show Rows.fleetErrorsUptoRow.lifted=Rows.fleetPathsUptoRow.lifted by kernel_rfl];exact JF.j24b
theorem j24c:(Tryz.prog.make == some Rows.fleetErrorsUptoRow.make)=true:=by
 rw [show Rows.fleetErrorsUptoRow.make=Rows.fleetPathsUptoRow.make by kernel_rfl];exact JF.j24c
set_option maxRecDepth 10000 in
theorem closed:joinedFacts Tryz.prog 9 Tryz.f9 (Rows.OpenSpec.upto Rows.fleetErrorsSpec).bare Rows.fleetErrorsUptoRow=true:=by
 unfold joinedFacts
 simp only [Bool.and_eq_true]
 exact ⟨⟨⟨⟨⟨⟨⟨⟨⟨⟨⟨⟨⟨⟨⟨⟨⟨⟨⟨⟨⟨⟨⟨⟨⟨⟨⟨⟨⟨⟨⟨j1,JF.j2⟩,JF.j3⟩,j4⟩,j5⟩,j6⟩,JF.j7⟩,j8⟩,JF.j9⟩,j10⟩,j11⟩,j12⟩,j13⟩,j14⟩,j15⟩,j16⟩,j17⟩,j17b⟩,j18⟩,j19⟩,j20⟩,j21⟩,j22⟩,j23⟩,JF.j23b⟩,JF.j24⟩,j24b⟩,j24c⟩,j25⟩,j26⟩,j27⟩,j28⟩
theorem named : Tryz.prog.funcNamed "univocal/univocallaw30.FleetErrors" = some 9 := by kernel_rfl
theorem inst:Tryz.f9.isInstance Tryz.prog Rows.fleetErrorsUptoRow.origin Rows.fleetErrorsUptoRow.targs:=of_decide_eq_true (by kernel_rfl)
theorem wraps:Tryz.f9.isWrapper Tryz.prog Rows.fleetErrorsUptoRow.wrapper Rows.fleetErrorsUptoRow.mainSum:=by
 unfold Func.isWrapper;first|(rw [if_pos (by decide +kernel)];kernel_rfl)|(rw [if_neg (by decide +kernel)];exact ⟨rfl,rfl⟩)
theorem said:Rows.FleetErrorsUptoSaid :=
 OpenClaim.holds_of_cond 9 Tryz.f9 rfl rfl rfl rfl rfl rfl rfl ⟨rfl,rfl,rfl,rfl,rfl⟩ rfl rfl rfl rfl rfl named Tryz.func9 closed inst wraps
  (fun os started H enc _ F=>by rw [OpenClaim.pre_eq_preRow];exact lifted os started H enc F)
theorem plain (f : FuncId) (fn : Func) (hf : Tryz.pinned.checked.prog.funcNamed "univocal/univocallaw30.FleetErrors" = some f) (hfn : Tryz.pinned.checked.prog.funcs[f]? = some fn) :
  false=Tryz.pinned.checked.prog.looks []∧∀ (j:Nat) t,fn.params[j]?=some t→Tryz.pinned.checked.prog.wantsStandIn t=false:=by
 obtain rfl : f = 9 := Option.some.inj ((show Tryz.pinned.checked.prog.funcNamed "univocal/univocallaw30.FleetErrors" = some 9 from named).symm.trans hf) |>.symm
 obtain rfl:fn=Tryz.f9:=(Option.some.inj (Tryz.func9.symm.trans hfn)).symm
 refine ⟨by kernel_rfl,fun j t ht=>?_⟩
 rw [Tryz.params9] at ht
 have hm:=Array.mem_of_getElem? ht
 simp only [List.mem_toArray,List.mem_cons,List.not_mem_nil,or_false] at hm
 rcases hm with rfl | rfl | rfl
 all_goals exact (show Tryz.prog.wantsStandIn _=false by kernel_rfl)
theorem proved:Rows.FleetErrorsUptoCardSaid :=
 Claim7.holds_tied_plain_at .later [] _ _ _ _ said (fun _ h=>by cases h) (by kernel_rfl) (fun _ h=>by cases h) fleetErrorsUpto_row_tie rfl ⟨rfl,rfl⟩ (by kernel_rfl) rfl plain (by kernel_rfl)
end Go.Proofs.YtkeplgdofphnkaaGreatDoor.fleetErrors
