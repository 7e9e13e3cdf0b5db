/- Part 3 of the walk through the functions that the laws of package fleet call: each function's contract, without conditions but those that its statement names. -/
import Derived.Test.YtkeplgdofphnkaaGreatDoorEB
set_option maxHeartbeats 4000000
set_option maxRecDepth 10000
set_option linter.unusedVariables false
set_option linter.unusedSimpArgs false
set_option linter.unusedSectionVars false
namespace Go.Proofs.YtkeplgdofphnkaaGreatDoor
open Go Go.Ex Go.RowKit Go.Proofs.Tryz
theorem canc_ok {G:Ghost} {v:Value} {d D:Dfa} (hd:DfR G v d) (hv:validD d=true) (hok:(tabF d).ok) (hD:canonF (tabF d)=some D) (hT:Tab G) :
  FnOk prog 234 [v] G [] fun r G' H'=>H'=[]∧∃ vd,r=.tuple #[vd,Vi 0]∧DfR G' vd D:=by
 obtain ⟨vc,vn,va,rfl,hC,hN,hA⟩:=hd
 obtain ⟨Ac,cc,rfl⟩:=LstR.slice hC
 obtain ⟨An,cn,rfl⟩:=LstR.slice hN
 obtain ⟨Aa,ca,rfl,_⟩:=id hA
 have hcd:=((validD_iff d).1 hv).2.2.2.2.1
 obtain ⟨X,hX⟩:∃ X,X=tabF d:=⟨_,rfl⟩
 rw [← hX] at hok hD
 refine FnOk.of_T [(0,_)] func234 rfl ntmps234 sM rfl fun w0 hs=>?_
 have hC0:=hC
 have hN0:=hN
 have hA0:=hA
 have hT0:=hT
 refine Wt 2 [] hs rfl<|O_s (Sb hs rfl fun b1 _ hs=>O_s (Sa hs zeroValue226 rfl fun b2 _ hs=>Wp 6 [0,1] hs rfl<|O_s (Sc (aval_t ⟨_,_,_,rfl,hC,hN,hA⟩ hv) hs rfl fun v1 G' H' _ hR hG5 hs=>?_)))
 obtain ⟨rfl,rfl⟩:=hR
 replace hs:=hs.n rfl
 replace hC:=hC.mono hG5
 replace hN:=hN.mono hG5
 replace hA:=hA.mono hG5
 replace hT:=hT.mono hG5
 refine Wp 7 [0,1] hs rfl<|O_s (Sc (tabof_ok ⟨_,_,_,rfl,hC,hN,hA⟩ hcd hT) hs rfl fun v2 G' H' _ hR hG9 hs=>?_)
 obtain ⟨rfl,h9⟩:=hR
 replace hs:=hs.n rfl
 rw [← hX] at h9
 obtain ⟨u9,w9,rfl,hc9,hn9,ha9⟩:=h9
 obtain ⟨N9,n9,rfl⟩:=LstR.slice hn9
 obtain ⟨A9,a9,rfl,_⟩:=id ha9
 refine O_s (Sc (canon_ok ⟨_,_,rfl,hc9,hn9,ha9⟩ hok hD) hs rfl fun v3 G' H' _ hR hG10 hs=>?_)
 obtain ⟨rfl,hz⟩:=hR
 replace hs:=hs.n rfl
 obtain ⟨zc,zn,za,rfl,hzC,hzN,hzA⟩:=hz
 obtain ⟨Cz,cz,rfl⟩:=LstR.slice hzC
 obtain ⟨Nz,nz,rfl⟩:=LstR.slice hzN
 obtain ⟨Az,az,rfl,_⟩:=id hzA
 refine O_n (Sg hs rfl (rfl) fun _ hs=>Wp 2 [0] hs rfl<|T_ret ?_)
 have hr:=hs
 refine Rt_fin (vs:=[_,_]) results234 rfl ⟨ResOk_blk 0 hr isAgg226 sizeOf226 rfl (cs:=[_,_,_]) rfl rfl,rfl,trivial⟩ ?_
 try dsimp only [tup]
 exact ⟨_,[],hs.done,rfl,_,rfl,_,_,_,rfl,hzC,hzN,hzA⟩
theorem mem1s_ok {lp b:Nat} {G:Ghost} {c:List Nat} {H0:List Res} {J:Ghost→List Res→Prop} {a:UInt8} (hcb:ClsAt G b c) (hc:c.length=4) (hw:∀ w∈c,w<W64) (hT:Tab G) (ha:(bytesF c)[0]?=some a)
  (hY:∀ G',G.le G'→YieldOk prog lp [.int .u8 (a.toNat:Int)] G' H0 fun r G'' H''=>r=Vf∧J G'' H'') :
  FnOk prog 300 [.func (.yield lp) #[] #[],Vp b] G H0 fun _ G' H'=>J G' H':=by
 refine FnOk.of_T [(0,_),(1,_)] func300 rfl ntmps300 sM rfl fun w0 hs=>?_
 have hcb0:=hcb
 have hT0:=hT
 refine Wt 2 [] hs rfl<|Zy hs (Y_ldAG (vs:=List.map u64V c) isAgg104 sizeOf104 rfl hcb.whole (by rw [List.length_map,hc])<|Wp 2 [0] hs rfl<|Zl [0,5,6] (fun m E w=>∃ (k:Nat) (G':Ghost),k≤4∧bytesF c=bytesG k (c.drop k)∧m=4-k∧E=⟨[],[(0,.func (.yield lp) #[] #[]),(5,(ClsV c)),(6,Vi (k:Int))]⟩∧St ⟨w0,G,feet H0⟩ G' H0 w) rfl (⟨0,_,by omega,rfl,rfl,rfl,hs⟩) fun m E w hI=>?_)
 obtain ⟨k,G',hk,hd,rfl,rfl,hs⟩:=hI
 have hcb:=hcb0.mono hs.le
 have hT:=hT0.mono hs.le
 refine Wt 2 [] hs rfl<|Zy hs (Yc rfl (fun h7=>?_) fun h7=>?_)
 ·
  refine Wp 9 [0] hs rfl<|Zy hs (Y_indexV (vs:=List.map u64V c) (v:=u64V c[k]) k underlying104 isAgg102 sizeOf102 rfl rfl rfl oM (map_at c k oM)<|Wp 3 [0] hs rfl<|T_block (T_loopN 1 (L:=[(0,_),(3,_),(4,_),(5,_),(6,_)]) ⟨rfl,rfl,rfl,rfl,rfl,trivial⟩ (U_go ?_)))
  have hwk:=hw c[k] (List.getElem_mem (show k<c.length by omega))
  rw [List.drop_eq_getElem_cons (show k<c.length by omega),bytesG] at hd
  generalize hwd:c[k]=wd at hd hwk ⊢
  refine Wt 4 [] hs rfl<|Zy hs (Yc rfl (fun h11=>?_) fun h11=>?_)
  ·
   rw [show memF k wd wd=UInt8.ofNat (64*k+tzF wd)::memF k (wd-1) (and64 wd (sub64 wd 1)) from by obtain ⟨f,rfl⟩:∃ q,wd=q+1:=⟨wd-1,by omega⟩;rw [memF,if_neg oM];rfl,List.cons_append] at hd
   have hst:UInt8.ofNat (64*k+tzF wd)=a:=by rw [hd] at ha;simpa using ha
   have htz:=tzF_le wd
   refine Wp 9 [0] hs rfl<|Zy hs (Y_mul (c:=((64*k:Nat):Int)) rfl rfl oM oM<|Wp 1 [] hs rfl<|O_s (S_call (H1:=[]) (H:=H0) hs rfl func301 rfl kR (tz_ok hT) fun v1 G' H' _ hR hG16 hs=>?_))
   obtain ⟨rfl,rfl⟩:=hR
   replace hs:St _ _ H0 _:=hs
   refine Zy hs (Ya (s:=((64*k+tzF wd:Nat):Int)) rfl<|Zy hs (Y_conv underlying3 underlying5 (c:=((UInt8.ofNat (64*k+tzF wd)).toNat:Int)) rfl (u8wrap _)<|O_s (S_yield (H1:=H0) (H:=[]) (by rw [List.append_nil];exact hs) rfl rfl (hst▸hY _ hs.le) fun v G'' H'' w' hR hG19 hs=>?_)))
   obtain ⟨rfl,hJ⟩:=hR
   rw [List.append_nil] at hs
   refine Wp 3 [0] hs rfl<|T_ret ?_
   refine Rt_fin (vs:=[]) results300 rfl trivial ?_
   try dsimp only [tup]
   exact ⟨_,_,hs,hJ⟩
  refine Wp 3 [0] hs rfl ?_
  refine Zr<|Zy hs (Ya (s:=((k+1:Nat):Int)) rfl<|Wp 1 [] hs rfl ?_)
  obtain rfl:wd=0:=by omega
  rw [memF_zero,List.nil_append] at hd
  refine Zx [0,5,6] rfl ⟨k+1,_,by omega,hd,rfl,rfl,hs⟩
 refine Wp 4 [0] hs rfl ?_
 try dsimp only [Ex.At,Ex.sqs,Ex.sq,Ex.lp,Ex.bk]
 try rw [show Nat.beq _ _=true from Nat.beq_refl _,cond_true]
 refine Rt_finN (vs:=[]) results300 rfl trivial ?_
 try dsimp only [tup]
 obtain rfl:k=4:=by omega
 rw [List.drop_eq_nil_of_le (by omega:c.length≤4)] at hd
 rw [hd] at ha;cases ha
theorem least_ok {G:Ghost} {c:List Nat} {a:UInt8} (hc:c.length=4) (hw:∀ w∈c,w<W64) (hT:Tab G) (ha:(bytesF c)[0]?=some a) :
  FnOk prog 239 [ClsV c] G [] fun r _ H'=>H'=[]∧r=Vi (a.toNat:Int):=by
 refine FnOk.of_TM [(0,_)] func239 rfl ntmps239 sM rfl fun w0 hs=>?_
 have hT0:=hT
 refine Wt 2 [] hs rfl<|O_s (S_box hs rfl (cs:=(List.map u64V c)) rfl fun b1 _ hs =>O_s (Sa hs zeroValue3 rfl fun b2 _ hs=>Wp 4 [0] hs rfl<|Zy hs (Yk 1 rfl (by rw [List.length_map,hc])<|O_s (Sc (memb_ok hc) hs rfl fun v1 G' H' _ hR hG5 hs=>?_))))
 obtain ⟨rfl,b,rfl,hcb⟩:=hR
 replace hs:=hs.n rfl
 replace hT:=hT.mono hG5
 refine Wp 1 [0] hs rfl ?_
 have hs:=hs.f1.f1
 refine Wu 1 [] hs rfl<|T_rangeFuncX (H1:=[_,_]) (H:=[]) (R:=fun j G' H2=>j=some .ret∧H2=[.blk b2 3 [Vi (a.toNat:Int)],.blk b1 104 (List.map u64V c)]) hs rfl func300 rfl kR ?hit ?done
 case hit =>
  intro lp D rec hp ha2 hbd hst hpe hAg
  obtain ⟨state,pending,fn',tmps,params,assign,body,defers⟩:=rec
  dsimp only at hp ha2 hbd hst hpe hAg
  subst hst hpe
  refine FnOk.mono (mem1s_ok (lp:=lp) (a:=a) (J:=fun G' H'=>H'=[.obj lp (.loop { state:=.done,pending:=some .ret,fn:=fn',tmps:=tmps,params:=params,assign:=assign,body:=body,defers:=defers }),.obj D (.deferred (some [])),.blk b2 3 [Vi (a.toNat:Int)],.blk b1 104 (List.map u64V c)]) hcb hc hw hT ha ?round) ?fin
  case fin =>
   rintro r G' H' _ rfl
   exact ⟨_,_,_,rfl,by simp,rfl,rfl⟩
  intro G' hle
  subst hp ha2 hbd
  refine YieldOk.of_TX hAg rfl rfl sM rfl fun w1 hs =>Wt 2 [] hs rfl<|O_nil ⟨hs,fun w2 hs=>?_⟩
  refine Wt 4 [] hs rfl<|Zy hs (Y_conv underlying5 underlying3 (c:=(a.toNat:Int)) rfl (wrap64_byte a)<|O_n (Sd hs.f2 rfl rfl fun _ hs=>Wp 1 [0] hs rfl<|T_ret ?_))
  have hs:=hs.f3.f1.f3.f3
  exact ⟨_,_,hs,rfl,rfl⟩
 case done =>
  rintro lp D o' j G' H2 w' ⟨rfl,rfl⟩ hle hs
  refine T_ret<|RtM_fin hs (vs:=[_]) results239 rfl (fun _ hs=>⟨⟨ResOk_cell1 1 hs isAgg3 rfl rfl,trivial⟩,?_⟩)
  try dsimp only [tup]
  exact ⟨_,[],hs.done,rfl,rfl⟩
theorem min1_ok {G:Ghost} {x y:Nat} :
  FnOk prog 297 [u64V x,u64V y] G [] fun r _ H'=>H'=[]∧r=u64V (and64 x (xor64 18446744073709551615 y)):=by
 refine FnOk.of_T [(0,_),(1,_)] func297 rfl ntmps297 sM rfl fun w0 hs =>Wt 8 [0] hs rfl<|Zy hs (Y_andNot64 rfl rfl<|Wp 2 [0] hs rfl<|T_ret<|Zz results297 rfl ?_)
 exact ⟨_,[],hs.done,rfl,rfl⟩
def minusF (a b:List Nat):List Nat:=List.zipWith (fun x y=>and64 x (xor64 18446744073709551615 y)) a b
theorem minusF_len {a b:List Nat} (h:a.length=4) (h2:b.length=4):(minusF a b).length=4:=by unfold minusF;rw [List.length_zipWith];omega
theorem minus_ok {G:Ghost} {a b:List Nat} (ha:a.length=4) (hb:b.length=4) :
  FnOk prog 272 [ClsV a,ClsV b] G [] fun r _ H'=>H'=[]∧r=ClsV (minusF a b):=by
 have hn:=minusF_len ha hb
 refine FnOk.of_T [(0,_),(1,_)] func272 rfl ntmps272 sM rfl fun w0 hs =>Wt 2 [] hs rfl<|O_s (S_box hs rfl (cs:=(List.map u64V a)) rfl fun b2 _ hs =>O_s (S_box hs rfl (cs:=(List.map u64V b)) rfl fun b3 _ hs =>O_s (S_alloc hs zeroValue104 (cs:=(List.map u64V [0,0,0,0])) rfl fun b4 _ hs =>Wp 3 [0] hs rfl<|Zy hs (Yk 2 rfl Z36<|Zy hs (Yk 1 rfl Z36<|O_s (Sc (comb_ok ha hb func297 rfl kR (fun _ _ _=>min1_ok)) hs rfl fun v1 G' H' _ hR hG7 hs=>?_))))))
 obtain ⟨rfl,rfl⟩:=hR
 replace hs:=hs.n rfl
 refine O_n (Sw hs rfl (vs:=(List.map u64V (minusF a b))) Z36 Z36 (u64_all _) fun _ hs=>Wp 1 [0] hs rfl<|T_ret ?_)
 have hr:=hs
 refine Rt_fin (vs:=[_]) results272 rfl ⟨ResOk_blk 0 hr isAgg104 sizeOf104 rfl (cs:=(List.map u64V (minusF a b))) rfl Z36,trivial⟩ ?_
 try dsimp only [tup]
 exact ⟨_,[],hs.done,rfl,rfl⟩
theorem cmpc_ok {G:Ghost} {a b:List Nat} {x y:UInt8} (ha:a.length=4) (hb:b.length=4) (hwa:∀ w∈a,w<W64) (hwb:∀ w∈b,w<W64) (hT:Tab G) (hx:(bytesF a)[0]?=some x) (hy:(bytesF b)[0]?=some y) :
  FnOk prog 274 [ClsV a,ClsV b] G [] fun r _ H'=>H'=[]∧r=Vi ((x.toNat:Int)-(y.toNat:Int)):=by
 have hx1:=x.toNat_lt
 have hy1:=y.toNat_lt
 refine FnOk.of_T [(0,_),(1,_)] func274 rfl ntmps274 sM rfl fun w0 hs=>?_
 have hT0:=hT
 refine Wt 2 [] hs rfl<|O_s (S_box hs rfl (cs:=(List.map u64V a)) rfl fun b2 _ hs =>O_s (S_box hs rfl (cs:=(List.map u64V b)) rfl fun b3 _ hs =>Wp 3 [0] hs rfl<|T_drawS [0,1,2,3,4,5] hs kR ?_))
 replace hs:=hs.drew
 refine Xt 0 hs rfl (Yk 1 rfl (by rw [List.length_map,ha])<|Xt 2 hs rfl (Yk 0 rfl (by rw [List.length_map,hb]) ?_))
 have hle:=hs.le
 refine Xo 1 rfl (Sc (least_ok ha hwa hT hx) hs rfl fun v1 G' H' _ hR hG6 hs=>?_)
 obtain ⟨rfl,rfl⟩:=hR
 replace hs:=hs.n rfl
 replace hT:=hT.mono hG6
 refine A_moreS hs hle hG6 (List.Sublist.refl _) ?_
 have hle:=hs.le
 refine Xo 3 rfl (Sc (least_ok hb hwb hT hy) hs rfl fun v2 G' H' _ hR hG8 hs=>?_)
 obtain ⟨rfl,rfl⟩:=hR
 replace hs:=hs.n rfl
 refine A_moreS hs hle hG8 (List.Sublist.refl _)<|Xt 4 hs rfl (Y_sub (c:=(x.toNat:Int)-(y.toNat:Int)) rfl rfl oM oM<|Xr [5] [] hs rfl<|Xe (Zk [4] rfl<|T_ret<|Zz results274 rfl ?_))
 exact ⟨_,[],hs.done,rfl,rfl⟩
theorem ins2_ok {G:Ghost} {bq cq p0 p1 p2 p3 q0 q1 q2 q3:Nat} {x y:UInt8} (hwp:∀ w∈[p0,p1,p2,p3],w<W64) (hwq:∀ w∈[q0,q1,q2,q3],w<W64) (hT:Tab G) (hx:(bytesF [p0,p1,p2,p3])[0]?=some x) (hy:(bytesF [q0,q1,q2,q3])[0]?=some y) (hlt:y.toNat<x.toNat) :
  FnOk prog 310 [Vs bq 2 cq,Vi 0,Vi 2,.func (.func 274) #[] #[]] G [.row 104 4 (Vs bq 2 cq) 2 [u64V p0,u64V p1,u64V p2,u64V p3,u64V q0,u64V q1,u64V q2,u64V q3]] fun r _ H'=>H'=[.row 104 4 (Vs bq 2 cq) 2 [u64V q0,u64V q1,u64V q2,u64V q3,u64V p0,u64V p1,u64V p2,u64V p3]]:=by
 have hx1:=x.toNat_lt
 have hy1:=y.toNat_lt
 refine FnOk.of_T [(0,_),(1,_),(2,_),(3,_)] func310 rfl ntmps310 sM rfl fun w0 hs=>?_
 have hT0:=hT
 refine Wt 3 [] hs rfl<|Zy hs (Y_add (c:=(1)) rfl rfl dC dC<|Wp 2 [0] hs rfl<|T_block (T_loopN 2 (L:=[(0,_),(1,_),(2,_),(3,_),(8,_)]) ⟨rfl,rfl,rfl,rfl,rfl,trivial⟩ (U_go<|Wt 16 [0,0] hs rfl<|T_block (T_loopN 2 (L:=[(0,_),(1,_),(2,_),(3,_),(8,_),(9,_)]) ⟨rfl,rfl,rfl,rfl,rfl,rfl,trivial⟩ (U_go<|Wt 2 [] hs rfl<|T_drawS [0,1,2,3,4,5,6,7,8,9,10,11,12,13,14,15,16] hs kR ?_)))))
 replace hs:=hs.drew
 refine Xr [0,1,2,3,4,5,6] [] hs rfl<|Xt 7 hs rfl (Y_idxRowK 1 underlying224 sizeOf104 rfl rfl rfl oM<|Xt 8 hs rfl (Y_ldRowK (i:=1) (vs:=[u64V q0,u64V q1,u64V q2,u64V q3]) 0 rfl isAgg104 sizeOf104 rfl oM rfl rfl<|Xr [9,10] [] hs rfl<|Xt 11 hs rfl (Y_sub (c:=(0)) rfl rfl dC dC<|Xt 12 hs rfl (Y_idxRowK 0 underlying224 sizeOf104 rfl rfl rfl oM<|Xt 13 hs rfl (Y_ldRowK (i:=0) (vs:=[u64V p0,u64V p1,u64V p2,u64V p3]) 0 rfl isAgg104 sizeOf104 rfl oM rfl rfl ?_)))))
 have hle:=hs.le
 refine Xo 14 rfl (S_callV (args:=[_,_]) (lb:=[]) (H1:=[]) hs rfl rfl func274 rfl kR (cmpc_ok (a:=[q0,q1,q2,q3]) (b:=[p0,p1,p2,p3]) rfl rfl hwq hwp hT hy hx) fun v1 G' H' _ hR hG32 hs=>?_)
 obtain ⟨rfl,rfl⟩:=hR
 replace hs:=hs.n rfl
 refine A_moreS hs hle hG32 (List.Sublist.refl _)<|Xt 15 hs rfl (Y_cmpT rfl rfl rfl oM<|Xr [16] [] hs rfl<|Xe (Zk [0,1,2,3,8,9,34] rfl<|Wu 4 [] hs rfl<|T_drawS [0,1,5,6,7,8,9,10,11,12,13,14] hs kR ?_))
 replace hs:=hs.drew
 refine A_pure 2 rfl kR rfl (Y_move rfl<|A_pure 3 rfl kR rfl (Y_move rfl<|A_pure 4 rfl kR rfl (Y_sub (c:=(0)) rfl rfl dC dC<|Xr [0,1,5,6] [] hs rfl<|Xt 7 hs rfl (Y_sub (c:=(0)) rfl rfl dC dC<|Xt 8 hs rfl (Y_idxRowK 0 underlying224 sizeOf104 rfl rfl rfl oM<|Xt 9 hs rfl (Y_ldRowK (i:=0) (vs:=[u64V p0,u64V p1,u64V p2,u64V p3]) 0 rfl isAgg104 sizeOf104 rfl oM rfl rfl<|Xr [10,11] [] hs rfl<|Xt 12 hs rfl (Y_idxRowK 1 underlying224 sizeOf104 rfl rfl rfl oM<|Xt 13 hs rfl (Y_ldRowK (i:=1) (vs:=[u64V q0,u64V q1,u64V q2,u64V q3]) 0 rfl isAgg104 sizeOf104 rfl oM rfl rfl<|Xt 14 hs rfl (Y_idxRowK 1 underlying224 sizeOf104 rfl rfl rfl oM<|Xn 15 rfl (S_stRowK (i:=1) (vs:=[u64V p0,u64V p1,u64V p2,u64V p3]) hs sizeOf104 rfl rfl rfl rfl oM fun _ hs =>Xa 16 rfl (S_y hs rfl (Y_idxRowK 0 underlying224 sizeOf104 rfl rfl rfl oM<|Xn 17 rfl (S_stRowK (i:=0) (vs:=[u64V q0,u64V q1,u64V q2,u64V q3]) hs sizeOf104 rfl rfl rfl rfl oM fun _ hs =>Xe (Zk [0,1,2,3,8,9] rfl<|Wu 2 [] hs rfl<|Zy hs (Y_sub (c:=(0)) rfl rfl dC dC<|Wp 1 [] hs rfl<|O_nil ⟨[(0,_),(1,_),(2,_),(3,_),(8,_),(9,_)],⟨rfl,rfl,rfl,rfl,rfl,rfl,trivial⟩,U_go ?_⟩)))))))))))))))
 refine Wt 2 [] hs rfl<|T_drawS [0,1,2,3,4,5,6,7,8,9,10,11,12,13,14,15,16] hs kR ?_
 replace hs:=hs.drew
 refine Xr [0,1,2,3,4,5,6,7,8,9,10,11,12,13,14,15,16] [] hs rfl<|Xe (Zk [0,1,2,3,8,9,34] rfl<|Wu 2 [] hs rfl<|Wu 2 [] hs rfl<|Zy hs (Y_add (c:=(2)) rfl rfl dC dC<|Wp 1 [] hs rfl<|O_nil ⟨[(0,_),(1,_),(2,_),(3,_),(8,_)],⟨rfl,rfl,rfl,rfl,rfl,trivial⟩,U_go ?_⟩))
 refine Wt 9 [0] hs rfl ?_
 try dsimp only [Ex.At,Ex.sqs,Ex.sq,Ex.lp,Ex.bk]
 try rw [show Nat.beq _ _=true from Nat.beq_refl _,cond_true]
 refine Rt_finN (vs:=[]) results310 rfl trivial ?_
 try dsimp only [tup]
 exact ⟨_,_,hs,rfl⟩
theorem len64_ok {G:Ghost} :
  FnOk prog 118 [.int .u64 2] G [] fun r _ H'=>H'=[]∧∃ z,r=Vi z:=by
 refine FnOk.of_T [(0,_)] func118 rfl ntmps118 sM rfl fun w0 hs =>Wt 32 [0,0,0,0] hs rfl<|Zy hs (Y_conv underlying102 underlying5 (c:=2) rfl dC<|Zy hs (Y_idxStr 2 underlying9 rfl rfl rfl rfl<|Zy hs (Y_conv underlying5 underlying3 (c:=2) rfl dC<|Zy hs (Y_add (c:=2) rfl rfl dC dC<|Wp 2 [0] hs rfl<|T_ret<|Zz results118 rfl ?_))))
 exact ⟨_,[],hs.done,rfl,⟨_,rfl⟩⟩
theorem len_ok {G:Ghost} :
  FnOk prog 80 [.int .u64 2] G [] fun r _ H'=>H'=[]∧∃ z,r=Vi z:=by
 refine FnOk.of_T [(0,_)] func80 rfl ntmps80 sM rfl fun w0 hs =>Wt 10 [0] hs rfl<|O_s (Sc (len64_ok) hs rfl fun v1 G' H' _ hR hG7 hs=>?_)
 obtain ⟨rfl,z,rfl⟩:=hR
 replace hs:=hs.n rfl
 refine Wp 2 [0] hs rfl<|T_ret<|Zz results80 rfl ?_
 exact ⟨_,[],hs.done,rfl,⟨_,rfl⟩⟩
theorem pdq2_ok {G:Ghost} {z:Int} {bq cq p0 p1 p2 p3 q0 q1 q2 q3:Nat} {x y:UInt8} (hwp:∀ w∈[p0,p1,p2,p3],w<W64) (hwq:∀ w∈[q0,q1,q2,q3],w<W64) (hT:Tab G) (hx:(bytesF [p0,p1,p2,p3])[0]?=some x) (hy:(bytesF [q0,q1,q2,q3])[0]?=some y) (hlt:y.toNat<x.toNat) :
  FnOk prog 298 [Vs bq 2 cq,Vi 0,Vi 2,Vi z,.func (.func 274) #[] #[]] G [.row 104 4 (Vs bq 2 cq) 2 [u64V p0,u64V p1,u64V p2,u64V p3,u64V q0,u64V q1,u64V q2,u64V q3]] fun r _ H'=>H'=[.row 104 4 (Vs bq 2 cq) 2 [u64V q0,u64V q1,u64V q2,u64V q3,u64V p0,u64V p1,u64V p2,u64V p3]]:=by
 refine FnOk.of_T [(0,_),(1,_),(2,_),(3,_),(4,_)] func298 rfl ntmps298 sM rfl fun w0 hs=>?_
 have hT0:=hT
 refine Wt 8 [0,0] hs rfl<|T_block (T_loopN 1 (L:=[(0,_),(1,_),(2,_),(3,_),(4,_),(10,_),(11,_)]) ⟨rfl,rfl,rfl,rfl,rfl,rfl,rfl,trivial⟩ (U_go<|Wt 5 [] hs rfl<|Zy hs (Y_sub (c:=(2)) rfl rfl dC dC<|Wp 15 [0,0] hs rfl<|O_s (Sc (ins2_ok hwp hwq hT hx hy hlt) hs rfl fun v1 G' H' _ hR hG30 hs=>?_))))
 obtain rfl:=hR
 replace hs:=hs.n rfl
 refine Wp 1 [0] hs rfl<|T_ret ?_
 refine Rt_fin (vs:=[]) results298 rfl trivial ?_
 try dsimp only [tup]
 exact ⟨_,_,hs,rfl⟩
theorem sort2_ok {G:Ghost} {bq cq p0 p1 p2 p3 q0 q1 q2 q3:Nat} {x y:UInt8} (hwp:∀ w∈[p0,p1,p2,p3],w<W64) (hwq:∀ w∈[q0,q1,q2,q3],w<W64) (hT:Tab G) (hx:(bytesF [p0,p1,p2,p3])[0]?=some x) (hy:(bytesF [q0,q1,q2,q3])[0]?=some y) (hlt:y.toNat<x.toNat) :
  FnOk prog 273 [Vs bq 2 cq,.func (.func 274) #[] #[]] G [.row 104 4 (Vs bq 2 cq) 2 [u64V p0,u64V p1,u64V p2,u64V p3,u64V q0,u64V q1,u64V q2,u64V q3]] fun r _ H'=>H'=[.row 104 4 (Vs bq 2 cq) 2 [u64V q0,u64V q1,u64V q2,u64V q3,u64V p0,u64V p1,u64V p2,u64V p3]]:=by
 refine FnOk.of_T [(0,_),(1,_)] func273 rfl ntmps273 sM rfl fun w0 hs=>?_
 have hT0:=hT
 refine Wt 10 [0] hs rfl<|Zy hs (Y_conv underlying3 underlying144 (c:=2) rfl dC<|O_s (Sc (len_ok) hs rfl fun v1 G' H' _ hR hG11 hs=>?_))
 obtain ⟨rfl,z,rfl⟩:=hR
 replace hs:=hs.n rfl
 replace hT:=hT.mono hG11
 refine Wp 1 [] hs rfl<|O_s (Sc (pdq2_ok hwp hwq hT hx hy hlt) hs rfl fun v2 G' H' _ hR hG13 hs=>?_)
 obtain rfl:=hR
 replace hs:=hs.n rfl
 refine O_nil (Rt_finN (vs:=[]) results273 rfl trivial ?_)
 try dsimp only [tup]
 exact ⟨_,_,hs,rfl⟩
theorem clsL_one {G:Ghost} {v:Value} {a b c d:Nat} (h:Sl G v 4 1 [u64V a,u64V b,u64V c,u64V d]) (hw:∀ w∈[a,b,c,d],w<W64):ClsL G v [[a,b,c,d]] :=
  ⟨[[u64V a,u64V b,u64V c,u64V d]],h,⟨⟨rfl,rfl,hw⟩,trivial⟩,by intro c hc;rw [List.mem_singleton.1 hc];rfl⟩
theorem clsL_two {G:Ghost} {v:Value} {a b c d x y z t:Nat} (h:Sl G v 4 2 [u64V a,u64V b,u64V c,u64V d,u64V x,u64V y,u64V z,u64V t]) (hw:∀ w∈[a,b,c,d],w<W64) (hw2:∀ w∈[x,y,z,t],w<W64):ClsL G v [[a,b,c,d],[x,y,z,t]] :=
  ⟨[[u64V a,u64V b,u64V c,u64V d],[u64V x,u64V y,u64V z,u64V t]],h,⟨⟨rfl,rfl,hw⟩,⟨rfl,rfl,hw2⟩,trivial⟩,by intro c hc;rcases List.mem_cons.1 hc with rfl | hc;rfl;rw [List.mem_singleton.1 hc];rfl⟩
theorem four_one {a b c d:Nat}:∀ y∈[u64V a,u64V b,u64V c,u64V d],y.oneCell'=true:=by
  intro y hy
  simp only [List.mem_cons,List.not_mem_nil,or_false] at hy
  rcases hy with rfl | rfl | rfl | rfl<;>rfl
theorem full_wf:(notF [0,0,0,0]).length=4∧∀ w∈notF [0,0,0,0],w<W64:=by decide
theorem cells_ok {G:Ghost} {v:Value} {c0 c1 c2 c3 p0 p1 p2 p3 q0 q1 q2 q3:Nat} {x y:UInt8} (hl:ClsL G v [[c0,c1,c2,c3]]) (hp:interF (notF [0,0,0,0]) [c0,c1,c2,c3]=[p0,p1,p2,p3]) (hq:minusF (notF [0,0,0,0]) [c0,c1,c2,c3]=[q0,q1,q2,q3]) (hp0:[p0,p1,p2,p3]≠[0,0,0,0]) (hq0:[q0,q1,q2,q3]≠[0,0,0,0]) (hwp:∀ w∈[p0,p1,p2,p3],w<W64) (hwq:∀ w∈[q0,q1,q2,q3],w<W64) (hT:Tab G) (hx:(bytesF [p0,p1,p2,p3])[0]?=some x) (hy:(bytesF [q0,q1,q2,q3])[0]?=some y) (hlt:y.toNat<x.toNat) :
  FnOk prog 235 [v] G [] fun r G' H'=>H'=[]∧ClsL G' r [[q0,q1,q2,q3],[p0,p1,p2,p3]]:=by
 obtain ⟨Ac,cc,rfl⟩:=LstR.slice hl
 change ClsL _ (.slice Ac 1 cc) _ at hl
 show FnOk prog 235 [.slice Ac 1 cc] G [] _
 obtain ⟨f0,f1,f2,f3,hF⟩:=four_of full_wf.1
 have hwF:=full_wf.2
 rw [hF] at hp hq hwF
 refine FnOk.of_T [(0,_)] func235 rfl ntmps235 sM rfl fun w0 hs=>?_
 have hl0:=hl
 have hT0:=hT
 refine Wt 6 [0] hs rfl<|Zy hs (Y_buildA underlying104 sizeOf102 zeroValue104 rfl rfl (cs:=[_,_,_,_]) rfl<|O_s (Sc (not_ok (c:=[0,0,0,0]) rfl) hs rfl fun v1 G' H' _ hR hG12 hs=>?_))
 obtain ⟨rfl,rfl⟩:=hR
 replace hs:=hs.n rfl
 replace hl:=hl.mono hG12
 replace hT:=hT.mono hG12
 rw [hF]
 refine O_s (Se hs zeroValue104 rfl fun v2 _ hs _=>?_)
 have hsN:=hs.fixRow noM
 clear hs
 obtain ⟨_,hG13,hl13,hs⟩:=hsN
 replace hl:=hl.mono hG13
 replace hT:=hT.mono hG13
 refine Wp 2 [0] hs rfl ?_
 have hL13:=clsL_one hl13 hwF
 obtain ⟨A13,c13,rfl,_⟩:=id hl13
 refine Wu 7 [0] hs rfl<|T_block (T_loopN 2 (L:=[(3,_),(14,_),(15,_),(16,_)]) ⟨rfl,rfl,rfl,rfl,trivial⟩ (U_go<|Wt 11 [0] hs rfl<|Zy hs (Y_idxS hl 0 underlying224 sizeOf104 rfl rfl rfl sM fun p18 c18 hp18 hc18 hR18 =>Zy hs (Y_ldAG (vs:=List.map u64V [c0,c1,c2,c3]) isAgg104 sizeOf104 rfl (hR18.1▸hp18) rfl<|O_s (S_alloc hs zeroValue104 (cs:=(List.map u64V [0,0,0,0])) rfl fun b5 _ hs =>O_n (Sw hs rfl (vs:=(List.map u64V [c0,c1,c2,c3])) Z36 Z36 (u64_all _) fun _ hs=>Wp 5 [0,0] hs rfl ?_))))))
 have hs:=hs.nilRow 104 4
 refine Wu 7 [0] hs rfl<|T_block (T_loopN 2 (L:=[(5,_),(6,_),(14,_),(15,_),(16,_),(20,_),(21,_),(22,_)]) ⟨rfl,rfl,rfl,rfl,rfl,rfl,rfl,rfl,trivial⟩ (U_go<|Wt 11 [0] hs rfl<|Zy hs (Y_idxS hL13 0 underlying224 sizeOf104 rfl rfl rfl sM fun p24 c24 hp24 hc24 hR24 =>Zy hs (Y_ldAG (vs:=List.map u64V [f0,f1,f2,f3]) isAgg104 sizeOf104 rfl (hR24.1▸hp24) rfl<|O_s (S_alloc hs zeroValue104 (cs:=(List.map u64V [0,0,0,0])) rfl fun b8 _ hs =>O_n (Sw hs rfl (vs:=(List.map u64V [f0,f1,f2,f3])) Z36 Z36 (u64_all _) fun _ hs=>Wp 2 [0] hs rfl<|T_drawS [0,1,2,3,4,5,6,7] hs kR ?_))))))
 replace hs:=hs.drew
 refine Xt 0 hs rfl (Yk 0 rfl (by rw [List.length_map,show [f0,f1,f2,f3].length=4 from rfl])<|Xt 1 hs rfl (Yk 2 rfl Z19<|Xt 3 hs rfl (Yk 0 rfl (by rw [List.length_map,show [f0,f1,f2,f3].length=4 from rfl])<|Xt 4 hs rfl (Yk 2 rfl Z19<|Xr [7] [] hs rfl ?_))))
 have hle:=hs.le
 refine Xo 2 rfl (Sc (inter_ok (a:=[f0,f1,f2,f3]) (b:=[c0,c1,c2,c3]) rfl rfl) hs rfl fun v3 G' H' _ hR hG28 hs=>?_)
 obtain ⟨rfl,rfl⟩:=hR
 replace hs:=hs.n rfl
 replace hT:=hT.mono hG28
 rw [hp]
 refine A_moreS hs hle hG28 (List.Sublist.refl _) ?_
 have hle:=hs.le
 refine Xo 5 rfl (Sc (minus_ok (a:=[f0,f1,f2,f3]) (b:=[c0,c1,c2,c3]) rfl rfl) hs rfl fun v4 G' H' _ hR hG31 hs=>?_)
 obtain ⟨rfl,rfl⟩:=hR
 replace hs:=hs.n rfl
 replace hT:=hT.mono hG31
 rw [hq]
 refine A_moreS hs hle hG31 (List.Sublist.refl _)<|Xt 6 hs rfl (Y_buildA underlying312 sizeOf104 zeroValue312 rfl rfl (cs:=[_,_,_,_,_,_,_,_]) rfl<|Xe (Zk [5,6,14,15,16,20,21,22,32,33] rfl<|T_block (T_loopN 3 (L:=[(5,_),(6,_),(14,_),(15,_),(16,_),(20,_),(21,_),(22,_),(32,_),(33,_)]) ⟨rfl,rfl,rfl,rfl,rfl,rfl,rfl,rfl,rfl,rfl,trivial⟩ (U_go<|Wt 11 [0] hs rfl<|Zy hs (Y_indexA (ws:=List.map u64V [p0,p1,p2,p3]) 0 underlying312 isAgg104 sizeOf104 rfl rfl rfl dC rfl<|O_s (S_alloc hs zeroValue104 (cs:=(List.map u64V [0,0,0,0])) rfl fun b10 _ hs =>O_n (Sw hs rfl (vs:=(List.map u64V [p0,p1,p2,p3])) Z36 Z36 (u64_all _) fun _ hs=>Wp 3 [0] hs rfl<|Zy hs (Yk 0 rfl Z20<|Zy hs (Y_buildA underlying104 sizeOf102 zeroValue104 rfl rfl (cs:=[_,_,_,_]) rfl<|Zy hs (Y_neqWS (a:=[p0,p1,p2,p3]) (b:=[0,0,0,0]) underlying104 sizeOf102 isAgg102 underlying102 rfl rfl rfl rfl rfl hwp dC (fun _=>?_) (fun h=>absurd h hp0)))))))))))
 refine Wp 4 [0] hs rfl<|Zy hs (Yk 0 rfl Z20<|O_s (Se hs zeroValue104 rfl fun v5 _ hs _=>?_))
 obtain ⟨_,hG41,hl41,hs⟩:=hs.fixRow noM
 replace hT:=hT.mono hG41
 refine O_s (S_append hs.f2 underlying224 TI104 rfl dC rfl rfl (hl41) (four_one) dC dC fun v6 _ hs =>Wp 3 [0] hs rfl<|Zy hs (Y_add (c:=(1)) rfl rfl dC dC<|Wp 1 [] hs rfl<|O_nil ⟨[(5,_),(6,_),(14,_),(15,_),(16,_),(20,_),(21,_),(22,_),(32,_),(33,_)],⟨rfl,rfl,rfl,rfl,rfl,rfl,rfl,rfl,rfl,rfl,trivial⟩,U_go ?_⟩))
 refine Wt 11 [0] hs rfl<|Zy hs (Y_indexA (ws:=List.map u64V [q0,q1,q2,q3]) 1 underlying312 isAgg104 sizeOf104 rfl rfl rfl dC rfl<|O_s (S_alloc hs zeroValue104 (cs:=(List.map u64V [0,0,0,0])) rfl fun b10 _ hs =>O_n (Sw hs rfl (vs:=(List.map u64V [q0,q1,q2,q3])) Z36 Z36 (u64_all _) fun _ hs=>Wp 3 [11,5,6,10,14,15,16,20,21,22,32,33] hs rfl<|Zy hs (Yk 0 rfl Z21<|Zy hs (Y_buildA underlying104 sizeOf102 zeroValue104 rfl rfl (cs:=[_,_,_,_]) rfl<|Zy hs (Y_neqWS (a:=[q0,q1,q2,q3]) (b:=[0,0,0,0]) underlying104 sizeOf102 isAgg102 underlying102 rfl rfl rfl rfl rfl hwq dC (fun _=>?_) (fun h=>absurd h hq0)))))))
 refine Wp 4 [0] hs rfl<|Zy hs (Yk 0 rfl Z21<|O_s (Se hs zeroValue104 rfl fun v7 _ hs _=>?_))
 obtain ⟨_,hG41,hl41,hs⟩:=hs.fixRow noM
 replace hT:=hT.mono hG41
 refine O_s (S_append hs.f1 underlying224 TI104 rfl dC rfl rfl (hl41) (four_one) dC dC fun v8 _ hs =>Wp 3 [0] hs rfl<|Zy hs (Y_add (c:=(2)) rfl rfl dC dC<|Wp 1 [] hs rfl<|O_nil ⟨[(5,_),(6,_),(14,_),(15,_),(16,_),(20,_),(21,_),(22,_),(32,_),(33,_)],⟨rfl,rfl,rfl,rfl,rfl,rfl,rfl,rfl,rfl,rfl,trivial⟩,U_go ?_⟩))
 refine Wt 7 [0] hs rfl ?_
 refine Zr<|Zy hs (Y_add (c:=(1)) rfl rfl dC dC<|Wp 1 [] hs rfl<|O_nil ⟨[(5,_),(6,_),(14,_),(15,_),(16,_),(20,_),(21,_),(22,_)],⟨rfl,rfl,rfl,rfl,rfl,rfl,rfl,rfl,trivial⟩,U_go ?_⟩)
 refine Wt 7 [9,5,6,14,15,16,20,21,22,23] hs rfl<|Wu 5 [0] hs rfl<|Zy hs (Y_add (c:=(1)) rfl rfl dC dC<|Wp 1 [] hs rfl<|O_nil ⟨[(3,_),(14,_),(15,_),(16,_)],⟨rfl,rfl,rfl,rfl,trivial⟩,U_go ?_⟩)
 refine Wt 7 [0] hs rfl ?_
 obtain ⟨bq,cq,hzbq,_⟩:=hs.rowForm 0 rfl oM
 subst hzbq
 refine Wu 3 [] hs rfl<|O_s (Sc (sort2_ok hwp hwq hT hx hy hlt) hs rfl fun v9 G' H' _ hR hG48 hs=>?_)
 obtain rfl:=hR
 replace hs:=hs.n rfl
 refine Wp 6 [0,0] hs rfl<|T_ret<|Zz results235 rfl ?_
 obtain ⟨G9,hG9,hf,hs⟩:=hs.fixRow noM
 exact ⟨_,[],hs.done,rfl,clsL_two hf hwq hwp⟩
def cellN (k:Nat):List Nat:=List.range k++List.replicate (256-k) 0
theorem cellN_len {k:Nat} (h:k≤256):(cellN k).length=256:=by unfold cellN;rw [List.length_append,List.length_range,List.length_replicate];omega
theorem cellN_succ {k:Nat} (h:k<256):(cellN k).set k k=cellN (k+1):=by
  unfold cellN
  rw [List.set_append_right _ _ (by rw [List.length_range];exact Nat.le_refl k),List.length_range,Nat.sub_self,show 256-k=(256-(k+1))+1 from by omega,List.replicate_succ,List.set_cons_zero,List.range_succ,List.append_assoc]
  rfl
theorem cellN_full:cellN 256=List.range 256:=by unfold cellN;rw [Nat.sub_self,List.replicate_zero,List.append_nil]
def fillR (j:Nat):List Nat:=List.replicate j 1++List.replicate (256-j) 0
theorem fillR_succ {j:Nat} (h:j<256):(fillR j).set j 1=fillR (j+1):=by
  unfold fillR
  rw [List.set_append_right _ _ (by rw [List.length_replicate];exact Nat.le_refl j),List.length_replicate,Nat.sub_self,show 256-j=(256-(j+1))+1 from by omega,List.replicate_succ,List.set_cons_zero,List.replicate_succ',List.append_assoc]
  rfl
theorem word_acc (s:Nat):((List.range (s+1)).map fun i=>decide (i=0)).map boolV=((List.range s).map fun i=>decide (i=0)).map boolV++[Value.bool (decide (s=0))]:=by rw [List.range_succ,List.map_append,List.map_append];rfl
theorem fillR_full:fillR 256=List.replicate 256 1:=by unfold fillR;rw [Nat.sub_self,List.replicate_zero,List.append_nil]
theorem word_ok {G:Ghost} {D:Dfa} (hok:emptyT.ok) (hD:canonF emptyT=some D) :
  FnOk prog 214 [Vn] G [] fun r G' H'=>H'=[]∧∃ vd,r=.tuple #[vd,Vi 0]∧DfR G' vd D:=by
 refine FnOk.of_T [(0,_)] func214 rfl ntmps214 sM rfl fun w0 hs =>Wt 2 [] hs rfl<|O_s (Sa hs zeroValue226 rfl fun b2 _ hs=>Wp 18 [0,0,0] hs rfl<|Zy hs (Y_build zeroValue276 rfl (pl:=[(0,256),(256,1),(257,1),(258,1)]) kR rfl (cs:=(tabC (List.replicate 256 0) 256 (Vn) (Vn))) kR<|O_s (S_alloc hs zeroValue276 (cs:=(tabC (List.replicate 256 0) 0 (Vn) (Vn))) rfl fun b5 _ hs =>O_n (S_stW hs sizeOf276 rfl rfl (vs:=_) Z9 Z9 (tabC_one rfl rfl) fun _ hs =>Wp 6 [0,0] hs rfl ?_))))
 have hs:=hs.f1.f1
 refine Zl [0,2,4,5,16] (fun m E w=>∃ (k:Nat) (G2:Ghost),k≤256∧m=256-k∧E=⟨[],[(0,Vn),(2,Vp b2),(4,Vi 0),(5,Vp b5),(16,Vi (k:Int))]⟩∧St ⟨w0,G,feet []⟩ G2 [.blk b5 276 (tabC (cellN k) 256 (Vn) (Vn)),.blk b2 226 [Vn,Vn,Vn]] w) rfl (⟨0,_,by omega,rfl,rfl,hs⟩) fun m E w hI=>?_
 obtain ⟨k,G2,hk,rfl,rfl,hs⟩:=hI
 refine Wt 2 [] hs rfl<|Zy hs (Yc rfl (fun h17=>?_) fun h17=>?_)
 ·
  refine Wp 15 [0,0,0] hs rfl<|Zy hs (Y_idxArr' k underlying274 sizeOf3 rfl rfl rfl oM<|O_n (S_st hs sizeOf3 rfl rfl rfl (by rw [tabC_len (cellN_len oM)];omega) (cs':=(tabC (cellN (k+1)) 256 (Vn) (Vn))) (by rw [← cellN_succ oM];exact tabC_cset (cellN_len oM) oM) fun _ hs =>Wp 2 [0] hs rfl<|Zy hs (Ya (s:=((k+1:Nat):Int)) rfl<|Wp 1 [] hs rfl ?_)))
  have hs:=hs.f1.f1
  refine Zx [0,2,4,5,16] rfl ⟨k+1,_,by omega,rfl,rfl,hs⟩
 refine Wp 4 [0] hs rfl<|Wu 4 [] hs rfl<|Zy hs (Y_add (c:=(2)) rfl rfl dC dC<|Wp 2 [0] hs rfl ?_)
 obtain rfl:k=256:=by omega
 rw [cellN_full] at hs
 have hs:=hs.nilRow 4 1
 have hs:=hs.nilRow 45 1
 have hs:=hs.f3.f2.f2.f3
 refine Zl [0,2,4,5,25,26] (fun m E w=>∃ (s:Nat) (vs:List Value) (vn va:Value) (G2:Ghost),s≤2∧vs.length=s∧LRows G2 vs (List.replicate s (List.replicate 256 1))∧m=2-s∧E=⟨[],[(0,Vn),(2,Vp b2),(4,Vi 0),(5,Vp b5),(25,Vi ((2))),(26,Vi (s:Int))]⟩∧St ⟨w0,G,feet []⟩ G2 [.blk b5 276 (tabC (List.range 256) 256 vn va),.row 45 1 (vn) s vs,.row 4 1 (va) s (((List.range s).map fun i=>decide (i=0)).map boolV),.blk b2 226 [Vn,Vn,Vn]] w) rfl (⟨0,[],_,_,_,by omega,rfl,trivial,rfl,rfl,hs⟩) fun m E w hI=>?_
 obtain ⟨s,vs,vn,va,G2,hs2,hvl,hrs,rfl,rfl,hs⟩:=hI
 refine Wt 2 [] hs rfl<|Zy hs (Yc rfl (fun h27=>?_) fun h27=>?_)
 ·
  refine Wp 13 [0,0] hs rfl<|O_s (S_make (n:=256) (m:=256) hs underlying45 TI3 rfl rfl rfl oM oM oM fun b29 _ hs =>Wp 9 [0,0] hs rfl ?_)
  have hs:=hs.f4.f4.f4.f4.f4
  rw [show List.replicate 256 (Value.int .i64 0)=(fillR 0).map natV from rep_nat 256] at hs
  refine Zl [0,2,4,5,7,8,25,26,31,32] (fun m E w=>∃ (j:Nat) (G2:Ghost),j≤256∧LRows G2 vs (List.replicate s (List.replicate 256 1))∧m=256-j∧E=⟨[],[(0,Vn),(2,Vp b2),(4,Vi 0),(5,Vp b5),(7,Vi (s:Int)),(8,Vs b29 256 256),(25,Vi ((2))),(26,Vi (s:Int)),(31,Vi 256),(32,Vi (j:Int))]⟩∧St ⟨w0,G,feet []⟩ G2 [.row 3 1 (Vs b29 256 256) 256 ((fillR j).map natV),.blk b5 276 (tabC (List.range 256) 256 vn va),.row 45 1 (vn) s vs,.row 4 1 (va) s (((List.range s).map fun i=>decide (i=0)).map boolV),.blk b2 226 [Vn,Vn,Vn]] w) rfl (⟨0,_,by omega,hrs,rfl,rfl,hs⟩) fun m E w hI=>?_
  obtain ⟨j,G2,hj,hrs,rfl,rfl,hs⟩:=hI
  refine Wt 2 [] hs rfl<|Zy hs (Yc rfl (fun h33=>?_) fun h33=>?_)
  ·
   refine Wp 15 [0,0] hs rfl<|Zy hs (Ya (s:=1) rfl<|Zy hs (Y_idxRow (j) underlying45 sizeOf3 rfl rfl rfl oM<|O_n (S_stRow hs sizeOf3 rfl rfl rfl oM fun _ hs =>Wp 2 [0] hs rfl<|Zy hs (Ya (s:=((j+1:Nat):Int)) rfl<|Wp 1 [] hs rfl ?_))))
   have hs:=hs.f4.f4.f4.f4.f4
   refine Zx [0,2,4,5,7,8,25,26,31,32] rfl ⟨j+1,_,by omega,hrs,rfl,rfl,by rw [← fillR_succ oM,List.map_set];exact hs⟩
  refine Wp 4 [0] hs rfl<|Wu 5 [] hs rfl<|Zy hs (Y_cmpF rfl rfl rfl oM<|Wp 3 [0] hs rfl ?_)
  obtain rfl:j=256:=by omega
  rw [fillR_full] at hs
  obtain ⟨_,hG_hrow,hrow,hs⟩:=hs.fixRow noM
  replace hrs:=hrs.mono hG_hrow
  replace hrow:Nats _ (Vs b29 256 256) (List.replicate 256 1):=hrow
  refine Wu 3 [257] hs rfl<|Zy hs (Y_ld 0 isAgg36 rfl rfl (tabC_2 List.length_range)<|Wp 1 [] hs rfl<|O_s (S_lit hs underlying36 sizeOf45 zeroValue45 rfl rfl dC dC rfl (cs:=[_]) rfl rfl fun v1 _ hs _=>?_))
  obtain ⟨_,hG55,hl55,hs⟩:=hs.fixRow noM
  replace hrs:=hrs.mono hG55
  replace hrow:=hrow.mono hG55
  refine O_s (S_append hs.f1 underlying36 TI45 rfl dC rfl rfl (hl55) (one1 rfl) oM oM fun v2 _ hs =>Wp 1 [257] hs rfl<|O_n (S_st hs.f1 sizeOf36 rfl rfl (hs.f1.rowOne 1 rfl) (by rw [tabC_len List.length_range];omega) (cs':=(tabC (List.range 256) 256 v2 va)) (tabC_set2 List.length_range) fun _ hs =>Wp 3 [0,258] hs rfl<|Zy hs (Y_ld 0 isAgg94 rfl rfl (tabC_3 List.length_range)<|Wp 2 [] hs rfl<|Zy hs (Yc rfl (fun h62=>?_) fun h62=>?_))))
  ·
   refine O_s (S_lit hs underlying94 sizeOf4 zeroValue4 rfl rfl dC dC rfl (cs:=[_]) rfl rfl fun v3 _ hs _=>?_)
   obtain ⟨_,hG63,hl63,hs⟩:=hs.fixRow noM
   replace hrs:=hrs.mono hG63
   replace hrow:=hrow.mono hG63
   refine O_s (S_append hs.f2 underlying94 TI4 rfl dC rfl rfl (hl63) (one1 rfl) oM oM fun v4 _ hs =>Wp 1 [258] hs rfl<|O_n (S_st hs.f1 sizeOf94 rfl rfl (hs.f1.rowOne 1 rfl) (by rw [tabC_len List.length_range];omega) (cs':=(tabC (List.range 256) 256 v2 v4)) (tabC_set3 List.length_range) fun _ hs =>Wp 2 [6,0,2,4,5,25,26] hs rfl<|Zy hs (Ya (s:=((s+1:Nat):Int)) rfl<|Wp 1 [] hs rfl ?_)))
   have hs:=hs.f3.f2.f3.f3
   refine Zx [0,2,4,5,25,26] rfl ⟨s+1,vs++[Vs b29 256 256],_,_,_,by omega,by rw [List.length_append,hvl];rfl,by rw [List.replicate_succ'];exact LRows.snoc hrs hrow,rfl,rfl,castH (hs.weak hs.le (Ghost.le.refl _) (List.sublist_append_left [_,_,_,_] _)) (by rw [word_acc,decide_eq_true (show s=0 by omega)])⟩
  refine O_s (S_lit hs underlying94 sizeOf4 zeroValue4 rfl rfl dC dC rfl (cs:=[_]) rfl rfl fun v5 _ hs _=>?_)
  obtain ⟨_,hG63,hl63,hs⟩:=hs.fixRow noM
  replace hrs:=hrs.mono hG63
  replace hrow:=hrow.mono hG63
  refine O_s (S_append hs.f2 underlying94 TI4 rfl dC rfl rfl (hl63) (one1 rfl) oM oM fun v6 _ hs =>Wp 1 [258] hs rfl<|O_n (S_st hs.f1 sizeOf94 rfl rfl (hs.f1.rowOne 1 rfl) (by rw [tabC_len List.length_range];omega) (cs':=(tabC (List.range 256) 256 v2 v6)) (tabC_set3 List.length_range) fun _ hs =>Wp 2 [6,0,2,4,5,25,26] hs rfl<|Zy hs (Ya (s:=((s+1:Nat):Int)) rfl<|Wp 1 [] hs rfl ?_)))
  have hs:=hs.f3.f2.f3.f3
  refine Zx [0,2,4,5,25,26] rfl ⟨s+1,vs++[Vs b29 256 256],_,_,_,by omega,by rw [List.length_append,hvl];rfl,by rw [List.replicate_succ'];exact LRows.snoc hrs hrow,rfl,rfl,castH (hs.weak hs.le (Ghost.le.refl _) (List.sublist_append_left [_,_,_,_] _)) (by rw [word_acc,decide_eq_false (show ¬ s=0 by omega)])⟩
 refine Wp 4 [0] hs rfl ?_
 obtain rfl:s=2:=by omega
 have hs:=hs.f1
 obtain ⟨_,hG_hfn,hfn,hs⟩:=hs.fixRow noM
 replace hrs:=hrs.mono hG_hfn
 have hs:=hs.f1
 obtain ⟨_,hG_hfa,hfa,hs⟩:=hs.fixRow noM
 replace hrs:=hrs.mono hG_hfa
 replace hfn:=hfn.mono hG_hfa
 obtain ⟨Fn,fn,rfl,_⟩:=id hfn
 obtain ⟨Fa,fa,rfl,_⟩:=id hfa
 have hnx:LN _ _ emptyT.next:=LRows.fin hfn rfl hrs
 have hac:Bools _ _ emptyT.acc:=hfa
 refine Wu 2 [] hs rfl<|Zy hs (Yk 0 rfl (tabC_len List.length_range)<|O_s (Sc (canon_ok (t:=emptyT) ⟨_,_,rfl,List.length_range,hnx,hac⟩ hok hD) hs rfl fun v7 G' H' _ hR hG68 hs=>?_))
 obtain ⟨rfl,hz⟩:=hR
 replace hs:=hs.n rfl
 obtain ⟨zc,zn,za,rfl,hzC,hzN,hzA⟩:=hz
 obtain ⟨Cz,cz,rfl⟩:=LstR.slice hzC
 obtain ⟨Nz,nz,rfl⟩:=LstR.slice hzN
 obtain ⟨Az,az,rfl,_⟩:=id hzA
 refine O_n (S_stA hs.f1 sizeOf226 rfl rfl (vs:=[_,_,_]) rfl (rfl) sM (cs':=[_,_,_]) rfl fun _ hs =>Wp 2 [0] hs rfl<|T_ret ?_)
 have hr:=hs
 refine Rt_fin (vs:=[_,_]) results214 rfl ⟨ResOk_blk 0 hr isAgg226 sizeOf226 rfl (cs:=[_,_,_]) rfl rfl,rfl,trivial⟩ ?_
 try dsimp only [tup]
 exact ⟨_,[],hs.done,rfl,_,rfl,_,_,_,rfl,hzC,hzN,hzA⟩
theorem Sl.nil_of {G:Ghost} {n c k m:Nat} {xs:List Value} (h:Sl G (.slice none n c) k m xs):m=0:=by
  obtain ⟨A,c',he,_,_,_,hA⟩:=h
  injection he with h1 h2 h3
  subst h1
  rcases Nat.eq_zero_or_pos m with h0 | h0
  · exact h0
  · obtain ⟨a,ha,_⟩:=hA h0;cases ha
theorem nat_one' (l:List Nat):∀ y∈l.map natV,y.oneCell'=true:=by
  intro y hy
  obtain ⟨n,_,rfl⟩:=List.mem_map.1 hy
  rfl
def lettD (p q:List Nat):Dfa:=⟨[q,p],[[2,1],[2,2],[2,2]],[false,true,false]⟩
theorem u8_wrap8 (a:UInt8):IntKind.u8.wrap (a.toNat:Int)=(a.toNat:Int):=by rw [u8wrap];simp
theorem ln_three {G:Ghost} {v a b c:Value} {x y z:List Nat} (h:Sl G v 1 3 [a,b,c]) (ha:Nats G a x) (hb:Nats G b y) (hc:Nats G c z):LN G v [x,y,z]:=LRows.fin h rfl ⟨ha,hb,hc,trivial⟩
theorem clni_ok {v:Value} {G:Ghost} {l:List Nat} (hb:Nats G v l) (hl:l.length≤1000000) :
  FnOk prog 52 [v] G [] fun r G' H'=>H'=[]∧Nats G' r l:=by
 obtain ⟨A,cap,rfl,hb'⟩:=id hb
 refine FnOk.of_T [(0,_)] func52 rfl ntmps52 sM rfl fun w0 hs=>?_
 have hb0:=hb
 refine Wt 8 [0] hs rfl<|Zy hs (Y_nilS underlying45 rfl rfl (fun h4=>?_) (fun h4=>?_))
 ·
  refine Wp 6 [0,0] hs rfl<|T_ret<|Zz results52 rfl ?_
  have hn:l=[]:=List.eq_nil_of_length_eq_zero (Sl.nil_of (h4▸hb))
  exact ⟨_,[],hs.done,rfl,by subst hn;exact Sl.nil _ _⟩
 refine Wp 5 [0] hs rfl<|O_s (Se hs zeroValue3 rfl fun v1 _ hs _=>Wp 1 [] hs rfl<|O_s (S_append hs underlying45 TI3 rfl dC rfl rfl (hb) (nat_one' _) oM oM fun v2 _ hs =>Wp 2 [0] hs rfl<|T_ret<|Zz results52 rfl ?_))
 obtain ⟨G',hG,hf,hs3⟩:=hs.fixRow noM
 exact ⟨G',[],hs3,rfl,by simpa [Nats] using hf⟩
theorem lett_ok {G:Ghost} {D:Dfa} {c0 c1 c2 c3 p0 p1 p2 p3 q0 q1 q2 q3:Nat} {x y:UInt8} (hwc:∀ w∈[c0,c1,c2,c3],w<W64) (hp:interF (notF [0,0,0,0]) [c0,c1,c2,c3]=[p0,p1,p2,p3]) (hq:minusF (notF [0,0,0,0]) [c0,c1,c2,c3]=[q0,q1,q2,q3]) (hp0:[p0,p1,p2,p3]≠[0,0,0,0]) (hq0:[q0,q1,q2,q3]≠[0,0,0,0]) (hwp:∀ w∈[p0,p1,p2,p3],w<W64) (hwq:∀ w∈[q0,q1,q2,q3],w<W64) (hT:Tab G) (hx:(bytesF [p0,p1,p2,p3])[0]?=some x) (hy:(bytesF [q0,q1,q2,q3])[0]?=some y) (hlt:y.toNat<x.toNat) (hsz:sizeF [c0,c1,c2,c3]≠0) (hhx:hasF [c0,c1,c2,c3] x=true) (hhy:hasF [c0,c1,c2,c3] y=false) (hv:validD (lettD [p0,p1,p2,p3] [q0,q1,q2,q3])=true) (hok:(tabF (lettD [p0,p1,p2,p3] [q0,q1,q2,q3])).ok) (hD:canonF (tabF (lettD [p0,p1,p2,p3] [q0,q1,q2,q3]))=some D) :
  FnOk prog 215 [ClsV [c0,c1,c2,c3]] G [] fun r G' H'=>H'=[]∧∃ vd,r=.tuple #[vd,Vi 0]∧DfR G' vd D:=by
 refine FnOk.of_T [(0,_)] func215 rfl ntmps215 sM rfl fun w0 hs=>?_
 have hT0:=hT
 refine Wt 2 [] hs rfl<|O_s (S_box hs rfl (cs:=(List.map u64V [c0,c1,c2,c3])) rfl fun b1 _ hs =>O_s (Sa hs zeroValue226 rfl fun b2 _ hs=>Wp 5 [0] hs rfl<|Zy hs (Yk 1 rfl Z19<|O_s (Sc (size_ok (c:=[c0,c1,c2,c3]) rfl) hs rfl fun v1 G' H' _ hR hG11 hs=>?_))))
 obtain ⟨rfl,rfl⟩:=hR
 replace hs:=hs.n rfl
 replace hT:=hT.mono hG11
 refine Zy hs (Y_cmpF rfl rfl rfl oM<|Wp 5 [0] hs rfl<|Zy hs (Yk 1 rfl Z19<|O_s (Se hs zeroValue104 rfl fun v2 _ hs _=>?_)))
 have hsN:=hs.fixRow noM
 clear hs
 obtain ⟨_,hG17,hl17,hs⟩:=hsN
 replace hT:=hT.mono hG17
 refine O_s (Sc (cells_ok (clsL_one hl17 hwc) hp hq hp0 hq0 hwp hwq hT hx hy hlt) hs rfl fun v3 G' H' _ hR hG18 hs=>?_)
 obtain ⟨rfl,hCe⟩:=hR
 replace hs:=hs.n rfl
 replace hT:=hT.mono hG18
 obtain ⟨Ae,ce,rfl⟩:∃ A c,_=Value.slice A 2 c:=LstR.slice hCe
 refine Wp 5 [0] hs rfl<|O_s (Se hs zeroValue4 rfl fun v4 _ hs _=>?_)
 have hsN:=hs.fixRow noM
 clear hs
 obtain ⟨_,hG20,hl20,hs⟩:=hsN
 replace hT:=hT.mono hG20
 replace hCe:=hCe.mono hG20
 obtain ⟨A20,c20,rfl,_⟩:=id hl20
 have hBs:Bools _ _ [false,true,false]:=hl20
 refine Zy hs (Y_build zeroValue226 rfl PL226 rfl (cs:=[_,_,_]) rfl<|O_s (Sa hs zeroValue226 rfl fun b5 _ hs=>O_n (Sg hs rfl (rfl) fun _ hs=>Wp 1 [0] hs rfl<|T_seqJ (fun E w=>∃ (b24 b27:Nat) (G2:Ghost),ClsL G2 (.slice Ae 2 ce) [[q0,q1,q2,q3],[p0,p1,p2,p3]]∧Bools G2 (.slice A20 3 c20) [false,true,false]∧E=⟨[],[(1,Vp b1),(2,Vp b2),(4,.slice Ae 2 ce),(5,Vp b5),(6,Vs b24 2 2),(7,Vs b27 2 2)]⟩∧St ⟨w0,G,feet []⟩ G2 [.row 3 1 (Vs b24 2 2) 2 (List.replicate 2 (Vi 0)),.row 3 1 (Vs b27 2 2) 2 (List.replicate 2 (Vi 0)),.blk b5 226 [.slice Ae 2 ce,Vn,.slice A20 3 c20],.blk b2 226 [Vn,Vn,Vn],.blk b1 104 (List.map u64V [c0,c1,c2,c3])] w) ?_ ?_)))
 ·
  refine T_drawS [0,1,2,3,4,5,6,7] hs kR ?_
  replace hs:=hs.drew
  refine Xr [0,1,3,4] [] hs rfl<|A_two 2 5 rfl rfl kR rfl rfl ?_ ?_
  ·
   have hle:=hs.le
   refine S_make (n:=2) (m:=2) hs underlying45 TI3 rfl rfl rfl oM oM oM fun b24 _ hs =>A_moreS hs hle (Ghost.le.refl _) (List.sublist_cons_self _ _)<|Xr [6] [] hs rfl ?_
   have hle:=hs.le
   refine Xo 5 rfl (S_make (n:=2) (m:=2) hs underlying45 TI3 rfl rfl rfl oM oM oM fun b27 _ hs =>A_moreS hs hle (Ghost.le.refl _) (List.sublist_cons_self _ _)<|Xr [7] [] hs rfl ?_)
   have hs:=hs.f4.f4.f4.f3.f4
   exact A_done kR (⟨[(1,_),(2,_),(4,_),(5,_),(6,_),(7,_)],⟨rfl,rfl,rfl,rfl,rfl,rfl,trivial⟩,⟨_,_,_,hCe,hBs,rfl,hs⟩⟩)
  have hle:=hs.le
  refine S_make (n:=2) (m:=2) hs underlying45 TI3 rfl rfl rfl oM oM oM fun b27 _ hs =>A_moreS hs hle (Ghost.le.refl _) (List.sublist_cons_self _ _) ?_
  have hle:=hs.le
  refine Xo 2 rfl (S_make (n:=2) (m:=2) hs underlying45 TI3 rfl rfl rfl oM oM oM fun b24 _ hs =>A_moreS hs hle (Ghost.le.refl _) (List.sublist_cons_self _ _)<|Xr [6,7] [] hs rfl ?_)
  have hs:=hs.f4.f4.f4.f4.f4
  exact A_done kR (⟨[(1,_),(2,_),(4,_),(5,_),(6,_),(7,_)],⟨rfl,rfl,rfl,rfl,rfl,rfl,trivial⟩,⟨_,_,_,hCe,hBs,rfl,hs⟩⟩)
 clear hs
 intro E w hI
 obtain ⟨b24,b27,G2,hCe,hBs,rfl,hs⟩:=hI
 have hT:=hT0.mono hs.le
 refine Wt 7 [0] hs rfl<|T_block (T_loopN 3 (L:=[(1,_),(2,_),(5,_),(6,_),(7,_),(28,_),(29,_),(30,_)]) ⟨rfl,rfl,rfl,rfl,rfl,rfl,rfl,rfl,trivial⟩ (U_go<|Wt 12 [0] hs rfl<|Zy hs (Y_idxS hCe 0 underlying224 sizeOf104 rfl rfl rfl sM fun p33 c33 hp33 hc33 hR33 =>Zy hs (Y_ldAG (vs:=List.map u64V [q0,q1,q2,q3]) isAgg104 sizeOf104 rfl (hR33.1▸hp33) rfl<|O_s (S_alloc hs zeroValue104 (cs:=(List.map u64V [0,0,0,0])) rfl fun b9 _ hs =>Wp 1 [] hs rfl<|O_n (Sw hs rfl (vs:=(List.map u64V [q0,q1,q2,q3])) Z36 Z36 (u64_all _) fun _ hs=>Wp 7 [0] hs rfl<|Zy hs (Y_idxRow (0) underlying45 sizeOf3 rfl rfl rfl dC<|O_n (S_stRow hs.f1 sizeOf3 rfl rfl rfl oM fun _ hs =>Zy hs (Y_idxRow (0) underlying45 sizeOf3 rfl rfl rfl dC<|O_n (S_stRow hs.f2 sizeOf3 rfl rfl rfl oM fun _ hs =>Wp 2 [0] hs rfl<|T_drawS [0,1,2,3,4] hs kR ?_))))))))))
 replace hs:=hs.drew
 refine Xt 0 hs rfl (Yk 5 rfl Z19<|Xt 1 hs rfl (Yk 2 rfl Z21 ?_))
 have hle:=hs.le
 refine Xo 2 rfl (Sc (least_ok (c:=[q0,q1,q2,q3]) rfl hwq hT hy) hs rfl fun v5 G' H' _ hR hG43 hs=>?_)
 obtain ⟨rfl,rfl⟩:=hR
 replace hs:=hs.n rfl
 replace hT:=hT.mono hG43
 replace hCe:=hCe.mono hG43
 replace hBs:=hBs.mono hG43
 refine A_moreS hs hle hG43 (List.Sublist.refl _)<|Xt 3 hs rfl (Y_conv underlying3 underlying5 (c:=(y.toNat:Int)) rfl (u8_wrap8 _) ?_)
 have hle:=hs.le
 refine Xo 4 rfl (Sc (has_ok (c:=[c0,c1,c2,c3]) (x:=y) rfl) hs rfl fun v6 G' H' _ hR hG45 hs=>?_)
 obtain ⟨rfl,rfl⟩:=hR
 replace hs:=hs.n rfl
 replace hT:=hT.mono hG45
 replace hCe:=hCe.mono hG45
 replace hBs:=hBs.mono hG45
 rw [hhy]
 refine A_moreS hs hle hG45 (List.Sublist.refl _)<|Xe (Zk [1,2,5,6,7,8,28,29,30,45] rfl<|Wu 3 [] hs rfl<|Zy hs (Y_add (c:=(1)) rfl rfl dC dC<|Wp 1 [] hs rfl<|O_nil ⟨[(1,_),(2,_),(5,_),(6,_),(7,_),(28,_),(29,_),(30,_)],⟨rfl,rfl,rfl,rfl,rfl,rfl,rfl,rfl,trivial⟩,U_go ?_⟩))
 refine Wt 12 [0] hs rfl<|Zy hs (Y_idxS hCe 1 underlying224 sizeOf104 rfl rfl rfl sM fun p33 c33 hp33 hc33 hR33 =>Zy hs (Y_ldAG (vs:=List.map u64V [p0,p1,p2,p3]) isAgg104 sizeOf104 rfl (hR33.1▸hp33) rfl<|O_s (S_alloc hs zeroValue104 (cs:=(List.map u64V [0,0,0,0])) rfl fun b9 _ hs =>Wp 1 [] hs rfl<|O_n (Sw hs rfl (vs:=(List.map u64V [p0,p1,p2,p3])) Z36 Z36 (u64_all _) fun _ hs=>Wp 7 [0] hs rfl<|Zy hs (Y_idxRow (1) underlying45 sizeOf3 rfl rfl rfl dC<|O_n (S_stRow hs.f2 sizeOf3 rfl rfl rfl oM fun _ hs =>Zy hs (Y_idxRow (1) underlying45 sizeOf3 rfl rfl rfl dC<|O_n (S_stRow hs.f2 sizeOf3 rfl rfl rfl oM fun _ hs =>Wp 2 [10,1,2,5,6,7,8,9,28,29,30] hs rfl<|T_drawS [0,1,2,3,4] hs kR ?_))))))))
 replace hs:=hs.drew
 refine Xt 0 hs rfl (Yk 6 rfl Z19<|Xt 1 hs rfl (Yk 2 rfl Z20 ?_))
 have hle:=hs.le
 refine Xo 2 rfl (Sc (least_ok (c:=[p0,p1,p2,p3]) rfl hwp hT hx) hs rfl fun v7 G' H' _ hR hG43 hs=>?_)
 obtain ⟨rfl,rfl⟩:=hR
 replace hs:=hs.n rfl
 replace hT:=hT.mono hG43
 replace hCe:=hCe.mono hG43
 replace hBs:=hBs.mono hG43
 refine A_moreS hs hle hG43 (List.Sublist.refl _)<|Xt 3 hs rfl (Y_conv underlying3 underlying5 (c:=(x.toNat:Int)) rfl (u8_wrap8 _) ?_)
 have hle:=hs.le
 refine Xo 4 rfl (Sc (has_ok (c:=[c0,c1,c2,c3]) (x:=x) rfl) hs rfl fun v8 G' H' _ hR hG45 hs=>?_)
 obtain ⟨rfl,rfl⟩:=hR
 replace hs:=hs.n rfl
 replace hT:=hT.mono hG45
 replace hCe:=hCe.mono hG45
 replace hBs:=hBs.mono hG45
 rw [hhx]
 refine A_moreS hs hle hG45 (List.Sublist.refl _)<|Xe (Zk [1,2,5,6,7,8,28,29,30,45] rfl<|Wu 4 [] hs rfl<|Zy hs (Y_idxRow (1) underlying45 sizeOf3 rfl rfl rfl dC<|O_n (S_stRow hs.f1 sizeOf3 rfl rfl rfl oM fun _ hs =>Wp 2 [0] hs rfl<|Zy hs (Y_add (c:=(2)) rfl rfl dC dC<|Wp 1 [] hs rfl<|O_nil ⟨[(1,_),(2,_),(5,_),(6,_),(7,_),(28,_),(29,_),(30,_)],⟨rfl,rfl,rfl,rfl,rfl,rfl,rfl,rfl,trivial⟩,U_go ?_⟩))))
 refine Wt 7 [0] hs rfl ?_
 obtain ⟨_,hG_hf6,hf6,hs⟩:=hs.fixRow noM
 replace hT:=hT.mono hG_hf6
 replace hCe:=hCe.mono hG_hf6
 replace hBs:=hBs.mono hG_hf6
 obtain ⟨_,hG_hf7,hf7,hs⟩:=hs.fixRow noM
 replace hT:=hT.mono hG_hf7
 replace hCe:=hCe.mono hG_hf7
 replace hBs:=hBs.mono hG_hf7
 replace hf6:=hf6.mono hG_hf7
 replace hf6:Nats _ _ [2,1]:=hf6
 replace hf7:Nats _ _ [2,2]:=hf7
 refine Wu 5 [] hs rfl<|O_s (Sc (clni_ok hf7 dC) hs rfl fun v9 G' H' _ hR hG53 hs=>?_)
 obtain ⟨rfl,hcl⟩:=hR
 replace hs:=hs.n rfl
 replace hT:=hT.mono hG53
 replace hCe:=hCe.mono hG53
 replace hBs:=hBs.mono hG53
 replace hf6:=hf6.mono hG53
 replace hf7:=hf7.mono hG53
 obtain ⟨A53,c53,rfl,_⟩:=id hcl
 refine O_s (Se hs zeroValue45 rfl fun v10 _ hs _=>?_)
 have hsN:=hs.fixRow noM
 clear hs
 obtain ⟨_,hG54,hl54,hs⟩:=hsN
 replace hT:=hT.mono hG54
 replace hCe:=hCe.mono hG54
 replace hBs:=hBs.mono hG54
 replace hf6:=hf6.mono hG54
 replace hf7:=hf7.mono hG54
 replace hcl:=hcl.mono hG54
 have hLN:=ln_three hl54 hf6 hf7 hcl
 obtain ⟨A54,c54,rfl,_⟩:=id hl54
 refine Wp 1 [1] hs rfl<|O_n (Sd hs.f2 rfl rfl fun _ hs=>Wp 4 [0,0] hs rfl<|O_s (Sc (canc_ok (d:=lettD [p0,p1,p2,p3] [q0,q1,q2,q3]) ⟨_,_,_,rfl,hCe,hLN,hBs⟩ hv hok hD hT) hs rfl fun v11 G' H' _ hR hG57 hs=>?_))
 obtain ⟨rfl,vd,rfl,hz⟩:=hR
 replace hs:=hs.n rfl
 obtain ⟨zc,zn,za,rfl,hzC,hzN,hzA⟩:=hz
 obtain ⟨Cz,cz,rfl⟩:=LstR.slice hzC
 obtain ⟨Nz,nz,rfl⟩:=LstR.slice hzN
 obtain ⟨Az,az,rfl,_⟩:=id hzA
 refine Wp 2 [] hs rfl<|O_n (Sg hs.f3 rfl (rfl) fun _ hs=>Wp 2 [2,2,3] hs rfl<|T_ret ?_)
 have hr:=hs
 refine Rt_fin (vs:=[_,_]) results215 rfl ⟨ResOk_blk 0 hr isAgg226 sizeOf226 rfl (cs:=[_,_,_]) rfl rfl,rfl,trivial⟩ ?_
 try dsimp only [tup]
 exact ⟨_,[],hs.done,rfl,_,rfl,_,_,_,rfl,hzC,hzN,hzA⟩
instance (t:Tb):Decidable t.ok:=by unfold Tb.ok;infer_instance
def recC (d:Dfa):Option Dfa:=if validD d=true∧(tabF d).ok then (canonF (tabF d)).bind fun D=>if D.cls.length≤256∧(tabF D).ok∧(tabF D).next.length≤64 then some D else none else none
def limC (t:Tb):Option Dfa:=if t.ok then (canonF t).bind fun D=>if D.next.length≤64 then some D else none else none
def starC (d:Dfa):Option Dfa:=(recC d).bind fun D=>match exG (jointF (tabF D) (tabF D)).bytes (starN (tabF D)) (starA (tabF D)) 4096 4097 0 [⟨1,0,1⟩] [] [] with
  | some (some RN)=>limC ⟨(jointF (tabF D) (tabF D)).cell,(jointF (tabF D) (tabF D)).bytes.length,RN.1,RN.2⟩
  | _=>none
def concC (a b:Dfa):Option Dfa:=(recC a).bind fun e1=>(recC b).bind fun e2=>match exG (jointF (tabF e1) (tabF e2)).bytes (concN (tabF e1) (tabF e2)) (fun a=>someF (tabF e2) a.s) 4096 4097 0 [enterF (tabF e1) ⟨0,0,0⟩] [] [] with
  | some (some RN)=>limC ⟨(jointF (tabF e1) (tabF e2)).cell,(jointF (tabF e1) (tabF e2)).bytes.length,RN.1,RN.2⟩
  | _=>none
theorem recC_some {d D:Dfa} (h:recC d=some D):validD d=true∧(tabF d).ok∧canonF (tabF d)=some D∧D.cls.length≤256∧(tabF D).ok∧(tabF D).next.length≤64:=by
  unfold recC at h
  split at h
  · rename_i h0
    obtain ⟨E,hE,h⟩:=Option.bind_eq_some_iff.1 h
    split at h
    · rename_i h1
      injection h with h;subst h
      exact ⟨h0.1,h0.2,hE,h1⟩
    · cases h
  · cases h
theorem limC_some {t:Tb} {D:Dfa} (h:limC t=some D):t.ok∧canonF t=some D∧D.next.length≤64:=by
  unfold limC at h
  split at h
  · rename_i h0
    obtain ⟨E,hE,h⟩:=Option.bind_eq_some_iff.1 h
    split at h
    · rename_i h1
      injection h with h;subst h
      exact ⟨h0,hE,h1⟩
    · cases h
  · cases h
theorem star_d {G:Ghost} {v:Value} {d D:Dfa} (hd:DfR G v d) (hT:Tab G) (h:starC d=some D) :
    FnOk prog 254 [v] G [] fun r G' H'=>H'=[]∧∃ vd,r=.tuple #[vd,Vi 0]∧DfR G' vd D:=by
  unfold starC at h
  obtain ⟨D1,h1,h⟩:=Option.bind_eq_some_iff.1 h
  obtain ⟨hv,hok0,hD,hc1,hok1,h64⟩:=recC_some h1
  split at h
  · rename_i RN hex
    obtain ⟨hokR,hD2,hn2⟩:=limC_some h
    exact star_ok hd hv hok0 hD hc1 hok1 h64 hT hex hokR hD2 hn2
  · cases h
theorem enterF_p (x:Tb) (a:Cs):(enterF x a).p=a.p:=by unfold enterF;split<;>rfl
theorem to_lt {t:Tb} (hok:t.ok) {s c:Nat} (hs:s<t.next.length) (hc:c<256) (hl:t.cell.length=256):t.to s (t.cell.getD c 0)<t.next.length:=by
  obtain ⟨_,_,_,_,hr,hce⟩:=hok
  have h1:t.cell.getD c 0<t.cells:=by rw [getD_lt oM];exact hce _ (List.getElem_mem _)
  obtain ⟨h2,h3⟩:=hr t.next[s] (List.getElem_mem _)
  unfold Tb.to
  rw [getD_lt hs,getD_lt (l:=t.next[s]) oM]
  exact h3 _ (List.getElem_mem _)
theorem conc_d {G:Ghost} {v1 v2:Value} {d1 d2 D:Dfa} (hd1:DfR G v1 d1) (hd2:DfR G v2 d2) (hT:Tab G) (h:concC d1 d2=some D) :
    FnOk prog 216 [v1,v2] G [] fun r G' H'=>H'=[]∧∃ vd,r=.tuple #[vd,Vi 0]∧DfR G' vd D:=by
  unfold concC at h
  obtain ⟨e1,h1,h⟩:=Option.bind_eq_some_iff.1 h
  obtain ⟨e2,h2,h⟩:=Option.bind_eq_some_iff.1 h
  obtain ⟨hv1,hok1,hD1,hc1,hok3,_⟩:=recC_some h1
  obtain ⟨hv2,hok2,hD2,hc2,hok4,h64⟩:=recC_some h2
  split at h
  · rename_i RN hex
    obtain ⟨hokR,hDR,hn2⟩:=limC_some h
    exact concat_ok hd1 hd2 hv1 hv2 hok1 hok2 hD1 hD2 hc1 hc2 hok3 hok4 h64 hT hex (by rw [enterF_p];exact hok3.1) (fun a c ha hc=>by unfold concN;rw [enterF_p];exact to_lt hok3 ha hc (tabF_len _)) hokR hDR hn2
  · cases h
theorem pow0_ok {G:Ghost} {v1 v2:Value} {d1 d2:Dfa} (hd1:DfR G v1 d1) (hd2:DfR G v2 d2) :
  FnOk prog 253 [v1,v2,Vi 0] G [] fun r _ H'=>H'=[]∧r=.tuple #[v1,Vi 0]:=by
 obtain ⟨vc1,vn1,va1,rfl,hC1,hN1,hA1⟩:=hd1
 obtain ⟨Ac1,cc1,rfl⟩:=LstR.slice hC1
 obtain ⟨An1,cn1,rfl⟩:=LstR.slice hN1
 obtain ⟨Aa1,ca1,rfl,_⟩:=id hA1
 obtain ⟨vc2,vn2,va2,rfl,hC2,hN2,hA2⟩:=hd2
 obtain ⟨Ac2,cc2,rfl⟩:=LstR.slice hC2
 obtain ⟨An2,cn2,rfl⟩:=LstR.slice hN2
 obtain ⟨Aa2,ca2,rfl,_⟩:=id hA2
 refine FnOk.of_T [(0,_),(1,_),(2,_)] func253 rfl ntmps253 sM rfl fun w0 hs =>Wt 2 [] hs rfl<|O_s (Sb hs rfl fun b3 _ hs=>O_s (Sb hs rfl fun b4 _ hs=>O_s (Sa hs zeroValue226 rfl fun b6 _ hs=>Wp 12 [0,0,0] hs rfl<|T_block (T_loopN 1 (L:=[(3,_),(4,_),(6,_),(9,_),(10,_)]) ⟨rfl,rfl,rfl,rfl,rfl,trivial⟩ (U_go<|Wt 7 [0] hs rfl<|Wu 3 [2] hs rfl<|O_n (Sg hs rfl (rfl) fun _ hs=>Wp 2 [0] hs rfl<|T_ret ?_))))))
 have hr:=hs
 refine Rt_fin (vs:=[_,_]) results253 rfl ⟨ResOk_blk 0 hr isAgg226 sizeOf226 rfl (cs:=[_,_,_]) rfl rfl,rfl,trivial⟩ ?_
 try dsimp only [tup]
 exact ⟨_,[],hs.done,rfl,rfl⟩
theorem rept_ok {G:Ghost} {v:Value} {d E0 D2 D:Dfa} (hd:DfR G v d) (hT:Tab G) (hok:emptyT.ok) (hE:canonF emptyT=some E0) (hS:starC d=some D2) (hC:concC E0 D2=some D) :
  FnOk prog 220 [v,Vi 0,Vi (-1)] G [] fun r G' H'=>H'=[]∧∃ vd,r=.tuple #[vd,Vi 0]∧DfR G' vd D:=by
 obtain ⟨vc,vn,va,rfl,hC0,hN,hA⟩:=hd
 obtain ⟨Ac,cc,rfl⟩:=LstR.slice hC0
 obtain ⟨An,cn,rfl⟩:=LstR.slice hN
 obtain ⟨Aa,ca,rfl,_⟩:=id hA
 refine FnOk.of_T [(0,_),(1,_),(2,_)] func220 rfl ntmps220 sM rfl fun w0 hs=>?_
 have hC00:=hC0
 have hN0:=hN
 have hA0:=hA
 have hT0:=hT
 refine Wt 2 [] hs rfl<|O_s (Sb hs rfl fun b3 _ hs=>O_s (Sa hs zeroValue226 rfl fun b6 _ hs=>Wp 4 [0] hs rfl<|O_s (Sc (word_ok hok hE) hs rfl fun v1 G' H' _ hR hG15 hs=>?_)))
 obtain ⟨rfl,vd,rfl,he⟩:=hR
 replace hs:=hs.n rfl
 replace hC0:=hC0.mono hG15
 replace hN:=hN.mono hG15
 replace hA:=hA.mono hG15
 replace hT:=hT.mono hG15
 obtain ⟨ec,en,ea,rfl,heC,heN,heA⟩:=he
 obtain ⟨Ce,ce,rfl⟩:=LstR.slice heC
 obtain ⟨Ne,ne,rfl⟩:=LstR.slice heN
 obtain ⟨Ae,ae,rfl,_⟩:=id heA
 refine Wp 3 [] hs rfl<|O_s (Sa hs zeroValue226 rfl fun b8 _ hs=>O_n (Sg hs rfl (rfl) fun _ hs=>Wp 15 [0,0,0,2] hs rfl<|O_s (Sc (pow0_ok ⟨_,_,_,rfl,heC,heN,heA⟩ ⟨_,_,_,rfl,hC0,hN,hA⟩) hs rfl fun v2 G' H' _ hR hG26 hs=>?_)))
 obtain ⟨rfl,rfl⟩:=hR
 replace hs:=hs.n rfl
 replace hC0:=hC0.mono hG26
 replace hN:=hN.mono hG26
 replace hA:=hA.mono hG26
 replace hT:=hT.mono hG26
 replace heC:=heC.mono hG26
 replace heN:=heN.mono hG26
 replace heA:=heA.mono hG26
 refine Wp 3 [] hs rfl<|O_s (Sa hs zeroValue226 rfl fun b10 _ hs=>O_n (Sg hs rfl (rfl) fun _ hs=>Wp 25 [7,1,2,3,6,8,9,10,0,0,3] hs rfl<|O_s (Sc (star_d ⟨_,_,_,rfl,hC0,hN,hA⟩ hT hS) hs rfl fun v3 G' H' _ hR hG42 hs=>?_)))
 obtain ⟨rfl,vd,rfl,hw⟩:=hR
 replace hs:=hs.n rfl
 replace hT:=hT.mono hG42
 replace heC:=heC.mono hG42
 replace heN:=heN.mono hG42
 replace heA:=heA.mono hG42
 obtain ⟨wc,wn,wa,rfl,hwC,hwN,hwA⟩:=hw
 obtain ⟨Cw,cw,rfl⟩:=LstR.slice hwC
 obtain ⟨Nw,nw,rfl⟩:=LstR.slice hwN
 obtain ⟨Aw,aw,rfl,_⟩:=id hwA
 refine Wp 3 [] hs rfl<|O_s (Sa hs zeroValue226 rfl fun b11 _ hs=>O_n (Sg hs rfl (rfl) fun _ hs=>Wp 14 [0,5,6,10,11,12,46,1,0] hs rfl<|O_s (Sc (conc_d ⟨_,_,_,rfl,heC,heN,heA⟩ ⟨_,_,_,rfl,hwC,hwN,hwA⟩ hT hC) hs rfl fun v4 G' H' _ hR hG51 hs=>?_)))
 obtain ⟨rfl,vd,rfl,hz⟩:=hR
 replace hs:=hs.n rfl
 obtain ⟨zc,zn,za,rfl,hzC,hzN,hzA⟩:=hz
 obtain ⟨Cz,cz,rfl⟩:=LstR.slice hzC
 obtain ⟨Nz,nz,rfl⟩:=LstR.slice hzN
 obtain ⟨Az,az,rfl,_⟩:=id hzA
 refine Wp 2 [] hs rfl<|O_n (Sg hs.f3 rfl (rfl) fun _ hs=>Wp 2 [0] hs rfl<|T_ret ?_)
 have hr:=hs
 refine Rt_fin (vs:=[_,_]) results220 rfl ⟨ResOk_blk 0 hr isAgg226 sizeOf226 rfl (cs:=[_,_,_]) rfl rfl,rfl,trivial⟩ ?_
 try dsimp only [tup]
 exact ⟨_,[],hs.done,rfl,_,rfl,_,_,_,rfl,hzC,hzN,hzA⟩
theorem ari_ok {G:Ghost} {k:Int} :
  FnOk prog 212 [Vi k] G [] fun r _ H'=>H'=[]∧r=Vi ((arF k:Nat):Int):=by
 refine FnOk.of_T [(0,_)] func212 rfl ntmps212 sM rfl fun w0 hs =>Wt 13 [0,0] hs rfl<|Zy hs (Yc rfl (fun h5=>?_) fun h5=>?_)
 ·
  refine Wp 9 [0,0] hs rfl<|T_ret<|Zz results212 rfl ?_
  exact ⟨_,[],hs.done,rfl,by rw [arF_2 oM];rfl⟩
 refine Wp 5 [0] hs rfl<|Zy hs (Yc rfl (fun h6=>?_) fun h6=>?_)
 ·
  refine Wp 9 [0,0] hs rfl<|T_ret<|Zz results212 rfl ?_
  exact ⟨_,[],hs.done,rfl,by rw [arF_2 oM];rfl⟩
 refine Wp 4 [0] hs rfl<|Zy hs (Yc rfl (fun h7=>?_) fun h7=>?_)
 ·
  refine Wp 7 [0,0] hs rfl<|T_ret<|Zz results212 rfl ?_
  exact ⟨_,[],hs.done,rfl,by rw [arF_2 oM];rfl⟩
 refine Wp 6 [0] hs rfl<|Zy hs (Yc rfl (fun h9=>?_) fun h9=>?_)
 ·
  refine Wp 9 [0,0] hs rfl<|T_ret<|Zz results212 rfl ?_
  exact ⟨_,[],hs.done,rfl,by rw [arF_1 oM];rfl⟩
 refine Wp 4 [0] hs rfl<|Zy hs (Yc rfl (fun h10=>?_) fun h10=>?_)
 ·
  refine Wp 7 [0,0] hs rfl<|T_ret<|Zz results212 rfl ?_
  exact ⟨_,[],hs.done,rfl,by rw [arF_1 oM];rfl⟩
 refine Wp 8 [0,0] hs rfl<|T_ret<|Zz results212 rfl ?_
 exact ⟨_,[],hs.done,rfl,by rw [arF_0 oM oM];rfl⟩
theorem in_ok {G:Ghost} {x:Int} {i p:Nat} :
  FnOk prog 233 [Vi x,Vp p] G [.blk p 3 [Vi (i:Int)]] fun r _ H'=>H'=[.blk p 3 [Vi (i:Int)]]∧r=.bool (decide (0≤x∧x<(i:Int))):=by
 refine FnOk.of_T [(0,_),(1,_)] func233 rfl ntmps233 sM rfl fun w0 hs =>Wt 7 [0] hs rfl<|Zy hs (Yc rfl (fun h5=>?_) fun h5=>?_)
 ·
  refine Wp 3 [0] hs rfl<|Zg hs rfl (Yc rfl (fun h9=>?_) fun h9=>?_)
  ·
   refine Wp 3 [0] hs rfl<|T_ret<|Zz results233 rfl ?_
   exact ⟨_,_,hs,rfl,congrArg Value.bool (decide_eq_true oM).symm⟩
  refine Wp 3 [0] hs rfl<|T_ret<|Zz results233 rfl ?_
  exact ⟨_,_,hs,rfl,congrArg Value.bool (decide_eq_false oM).symm⟩
 refine Wp 7 [0] hs rfl<|T_ret<|Zz results233 rfl ?_
 exact ⟨_,_,hs,rfl,congrArg Value.bool (decide_eq_false oM).symm⟩
theorem ops_b5 {n:NodeV} {i:Int} (h:0<arF n.kind∧¬ (0≤n.l∧n.l<i)):¬ opsOk n i:=fun ho=>h.2 (ops_l ho h.1)
theorem ops_b6 {n:NodeV} {i:Int} (h:arF n.kind=0∧n.l≠0):¬ opsOk n i:=fun ho=>by have h1:=ho.1;rw [if_neg oM] at h1;exact h.2 h1
theorem ops_b7 {n:NodeV} {i:Int} (h:1<arF n.kind∧¬ (0≤n.r∧n.r<i)):¬ opsOk n i:=fun ho=>h.2 (ops_r ho h.1)
theorem ops_b8 {n:NodeV} {i:Int} (h:arF n.kind<2∧n.r≠0):¬ opsOk n i:=fun ho=>by have h1:=ho.2;rw [if_neg oM] at h1;exact h.2 h1
theorem not_of {b:Bool} {P:Prop} (h:b=true↔P) (hb:b=false):¬ P:=fun p=>by rw [h.2 p] at hb;cases hb
theorem ops_all {n:NodeV} {i:Int} (h5:¬ (0<arF n.kind∧¬ (0≤n.l∧n.l<i))) (h6:¬ (arF n.kind=0∧n.l≠0)) (h7:¬ (1<arF n.kind∧¬ (0≤n.r∧n.r<i))) (h8:¬ (arF n.kind<2∧n.r≠0)):opsOk n i:=by
  refine ⟨?_,?_⟩
  · by_cases h:0<arF n.kind
    · rw [if_pos h];exact Classical.not_not.1 fun h'=>h5 ⟨h,h'⟩
    · rw [if_neg h];exact Classical.not_not.1 fun h'=>h6 ⟨by omega,h'⟩
  · by_cases h:1<arF n.kind
    · rw [if_pos h];exact Classical.not_not.1 fun h'=>h7 ⟨h,h'⟩
    · rw [if_neg h];exact Classical.not_not.1 fun h'=>h8 ⟨by omega,h'⟩
theorem chk_ok {G:Ghost} {n:NodeV} {i:Nat} (hc:ClsOk n.c) :
  FnOk prog 211 [.agg (nodeC n).toArray,Vi (i:Int)] G [] fun r _ H'=>H'=[]∧r=Vi (nodeE n i):=by
 obtain ⟨kd,c,ll,rr,mn,mx⟩:=n
 obtain ⟨c0,c1,c2,c3,rfl⟩:=four_of hc.1
 show FnOk prog 211 [.agg #[Vi kd,u64V c0,u64V c1,u64V c2,u64V c3,Vi ll,Vi rr,Vi mn,Vi mx],Vi (i:Int)] G [] _
 refine FnOk.of_T [(0,_),(1,_)] func211 rfl ntmps211 sM rfl fun w0 hs =>Wt 2 [] hs rfl<|O_s (Sb hs rfl fun b2 _ hs=>O_s (Sb hs rfl fun b3 _ hs=>Wp 7 [0,0,1] hs rfl<|Zy hs (Yc rfl (fun h9=>?_) fun h9=>?_)))
 ·
  refine Wp 11 [0,0] hs rfl<|T_ret<|Zz results211 rfl ?_
  unfold nodeE;rw [if_pos Z47]
  exact ⟨_,[],hs.done,rfl,rfl⟩
 refine Wp 3 [0,1] hs rfl<|Zg hs rfl (Yc rfl (fun h13=>?_) fun h13=>?_)
 ·
  refine Wp 7 [0,0] hs rfl<|T_ret<|Zz results211 rfl ?_
  unfold nodeE;rw [if_pos Z47]
  exact ⟨_,[],hs.done,rfl,rfl⟩
 refine Wp 6 [0] hs rfl<|Zy hs (Y_makeFunc (vs:=[_]) rfl<|Wp 6 [0,0,1] hs rfl<|O_s (Sc (ari_ok) hs rfl fun v1 G' H' _ hR hG18 hs=>?_))
 obtain ⟨rfl,rfl⟩:=hR
 replace hs:=hs.n rfl
 refine Wp 5 [0] hs rfl<|T_seqJ (fun E w=>∃ (b5:Bool) (G':Ghost),(b5=true↔(0<arF kd∧¬ (0≤ll∧ll<(i:Int))))∧E=⟨[],[(2,Vp b2),(5,.func (.func 233) #[] #[Vp b3]),(6,Vi ((arF kd:Nat):Int)),(19,.bool b5)]⟩∧St ⟨w0,G,feet []⟩ G' [.blk b2 152 [Vi kd,u64V c0,u64V c1,u64V c2,u64V c3,Vi ll,Vi rr,Vi mn,Vi mx],.blk b3 3 [Vi (i:Int)]] w) ?_ ?_
 ·
  refine Wt 2 [] hs rfl<|Zy hs (Yc rfl (fun h21=>?_) fun h21=>?_)
  ·
   refine Wp 4 [5,1] hs rfl<|O_yes 22 rfl rfl (S_callV (args:=[_]) (lb:=[_]) (H1:=[_]) hs rfl rfl func233 rfl kR (in_ok (x:=ll)) fun v2 G' H' _ hR hG26 hs=>?_)
   obtain ⟨rfl,rfl⟩:=hR
   replace hs:=hs.n rfl
   cases h26:decide (0≤ll∧ll<(i:Int))
   ·
    refine Wp 3 [] hs rfl ?_
    have hs:=hs.f1
    exact O_nil (⟨[(2,_),(5,_),(6,_),(19,_)],⟨rfl,rfl,rfl,rfl,trivial⟩,⟨_,_,⟨fun _=>⟨by omega,of_decide_eq_false h26⟩,fun _=>rfl⟩,rfl,hs⟩⟩)
   refine Wp 3 [] hs rfl ?_
   have hs:=hs.f1
   exact O_nil (⟨[(2,_),(5,_),(6,_),(19,_)],⟨rfl,rfl,rfl,rfl,trivial⟩,⟨_,_,⟨fun h=>Z52,fun h=>absurd (of_decide_eq_true h26) h.2⟩,rfl,hs⟩⟩)
  refine Wp 8 [] hs rfl ?_
  have hs:=hs.f1
  exact O_nil (⟨[(2,_),(5,_),(6,_),(19,_)],⟨rfl,rfl,rfl,rfl,trivial⟩,⟨_,_,⟨fun h=>Z52,fun h=>absurd h.1 oM⟩,rfl,hs⟩⟩)
 clear hs
 intro E w hI
 obtain ⟨b5,G',hb5,rfl,hs⟩:=hI
 refine T_joinK (fun E w=>∃ (bj:Bool) (G':Ghost),(bj=true↔¬ opsOk ⟨kd,[c0,c1,c2,c3],ll,rr,mn,mx⟩ (i:Int))∧E=⟨[],[(2,Vp b2),(19,.bool bj)]⟩∧St ⟨w0,G,feet []⟩ G' [.blk b2 152 [Vi kd,u64V c0,u64V c1,u64V c2,u64V c3,Vi ll,Vi rr,Vi mn,Vi mx],.blk b3 3 [Vi (i:Int)]] w) ?_ ?_
 ·
  refine T_condS rfl (fun hif=>?_) (fun hif=>?_)
  ·
   refine T_skip ?_
   have hs:=hs.f1.f1
   exact ⟨[(2,_),(19,_)],⟨rfl,rfl,trivial⟩,⟨_,_,⟨fun _=>by first|exact ops_b7 (hb7.1 hif)|exact ops_b6 (hb6.1 hif)|exact ops_b5 (hb5.1 hif),fun _=>hif⟩,rfl,hs⟩⟩
  have hn5:=hif
  refine T_seqJ (fun E w=>∃ (b6:Bool) (G':Ghost),(b6=true↔(arF kd=0∧ll≠0))∧E=⟨[],[(2,Vp b2),(5,.func (.func 233) #[] #[Vp b3]),(6,Vi ((arF kd:Nat):Int)),(19,.bool b6)]⟩∧St ⟨w0,G,feet []⟩ G' [.blk b2 152 [Vi kd,u64V c0,u64V c1,u64V c2,u64V c3,Vi ll,Vi rr,Vi mn,Vi mx],.blk b3 3 [Vi (i:Int)]] w) ?_ ?_
  ·
   refine Wt 2 [] hs rfl<|Zy hs (Yc rfl (fun h30=>?_) fun h30=>?_)
   ·
    refine Wp 3 [5,0] hs rfl<|Zg hs rfl (Yc rfl (fun h34=>?_) fun h34=>?_)
    ·
     refine Wp 2 [] hs rfl ?_
     have hs:=hs.f1.f1
     exact O_nil (⟨[(2,_),(5,_),(6,_),(19,_)],⟨rfl,rfl,rfl,rfl,trivial⟩,⟨_,_,⟨fun _=>⟨by omega,by omega⟩,fun _=>rfl⟩,rfl,hs⟩⟩)
    refine Wp 2 [] hs rfl ?_
    have hs:=hs.f1.f1
    exact O_nil (⟨[(2,_),(5,_),(6,_),(19,_)],⟨rfl,rfl,rfl,rfl,trivial⟩,⟨_,_,⟨fun h=>Z52,fun h=>absurd h.2 oM⟩,rfl,hs⟩⟩)
   refine Wp 6 [] hs rfl ?_
   have hs:=hs.f1.f1
   exact O_nil (⟨[(2,_),(5,_),(6,_),(19,_)],⟨rfl,rfl,rfl,rfl,trivial⟩,⟨_,_,⟨fun h=>Z52,fun h=>absurd h.1 oM⟩,rfl,hs⟩⟩)
  clear hs
  intro E w hI
  obtain ⟨b6,G',hb6,rfl,hs⟩:=hI
  refine T_condS rfl (fun hif=>?_) (fun hif=>?_)
  ·
   refine T_skip ?_
   have hs:=hs.f1.f1
   exact ⟨[(2,_),(19,_)],⟨rfl,rfl,trivial⟩,⟨_,_,⟨fun _=>by first|exact ops_b7 (hb7.1 hif)|exact ops_b6 (hb6.1 hif)|exact ops_b5 (hb5.1 hif),fun _=>hif⟩,rfl,hs⟩⟩
  have hn6:=hif
  refine T_seqJ (fun E w=>∃ (b7:Bool) (G':Ghost),(b7=true↔(1<arF kd∧¬ (0≤rr∧rr<(i:Int))))∧E=⟨[],[(2,Vp b2),(6,Vi ((arF kd:Nat):Int)),(19,.bool b7)]⟩∧St ⟨w0,G,feet []⟩ G' [.blk b2 152 [Vi kd,u64V c0,u64V c1,u64V c2,u64V c3,Vi ll,Vi rr,Vi mn,Vi mx],.blk b3 3 [Vi (i:Int)]] w) ?_ ?_
  ·
   refine Wt 2 [] hs rfl<|Zy hs (Yc rfl (fun h37=>?_) fun h37=>?_)
   ·
    refine Wp 4 [6,0] hs rfl<|O_yes 38 rfl rfl (S_callV (args:=[_]) (lb:=[_]) (H1:=[_]) hs.f1 rfl rfl func233 rfl kR (in_ok (x:=rr)) fun v3 G' H' _ hR hG42 hs=>?_)
    obtain ⟨rfl,rfl⟩:=hR
    replace hs:=hs.n rfl
    cases h42:decide (0≤rr∧rr<(i:Int))
    ·
     refine Wp 3 [] hs rfl ?_
     have hs:=hs.f1
     exact O_nil (⟨[(2,_),(6,_),(19,_)],⟨rfl,rfl,rfl,trivial⟩,⟨_,_,⟨fun _=>⟨by omega,of_decide_eq_false h42⟩,fun _=>rfl⟩,rfl,hs⟩⟩)
    refine Wp 3 [] hs rfl ?_
    have hs:=hs.f1
    exact O_nil (⟨[(2,_),(6,_),(19,_)],⟨rfl,rfl,rfl,trivial⟩,⟨_,_,⟨fun h=>Z52,fun h=>absurd (of_decide_eq_true h42) h.2⟩,rfl,hs⟩⟩)
   refine Wp 8 [] hs rfl ?_
   have hs:=hs.f1.f1
   exact O_nil (⟨[(2,_),(6,_),(19,_)],⟨rfl,rfl,rfl,trivial⟩,⟨_,_,⟨fun h=>Z52,fun h=>absurd h.1 oM⟩,rfl,hs⟩⟩)
  clear hs
  intro E w hI
  obtain ⟨b7,G',hb7,rfl,hs⟩:=hI
  refine T_condS rfl (fun hif=>?_) (fun hif=>?_)
  ·
   refine T_skip ?_
   have hs:=hs.f1.f1
   exact ⟨[(2,_),(19,_)],⟨rfl,rfl,trivial⟩,⟨_,_,⟨fun _=>by first|exact ops_b7 (hb7.1 hif)|exact ops_b6 (hb6.1 hif)|exact ops_b5 (hb5.1 hif),fun _=>hif⟩,rfl,hs⟩⟩
  refine Wt 2 [] hs rfl<|Zy hs (Yc rfl (fun h46=>?_) fun h46=>?_)
  ·
   refine Wp 3 [6,0] hs rfl<|Zg hs rfl (Yc rfl (fun h50=>?_) fun h50=>?_)
   ·
    refine Wp 2 [] hs rfl ?_
    have hs:=hs.f1.f1
    exact O_nil (⟨[(2,_),(19,_)],⟨rfl,rfl,trivial⟩,⟨_,_,⟨fun _=>ops_b8 ⟨by dsimp only;omega,by dsimp only;omega⟩,fun _=>rfl⟩,rfl,hs⟩⟩)
   refine Wp 2 [] hs rfl ?_
   have hs:=hs.f1.f1
   exact O_nil (⟨[(2,_),(19,_)],⟨rfl,rfl,trivial⟩,⟨_,_,⟨fun h=>Z52,fun h=>absurd (ops_all (not_of hb5 hn5) (not_of hb6 hn6) (not_of hb7 hif) (fun p=>p.2 Z47)) h⟩,rfl,hs⟩⟩)
  refine Wp 6 [] hs rfl ?_
  have hs:=hs.f1.f1
  exact O_nil (⟨[(2,_),(19,_)],⟨rfl,rfl,trivial⟩,⟨_,_,⟨fun h=>Z52,fun h=>absurd (ops_all (not_of hb5 hn5) (not_of hb6 hn6) (not_of hb7 hif) (fun p=>by have:=p.1;dsimp only at this;omega)) h⟩,rfl,hs⟩⟩)
 clear hs
 intro D M L w hL hI
 obtain ⟨bj,G',hj,hE,hs⟩:=hI
 cases hE
 refine T_sub _ hL<|T_condS rfl (fun hif=>?_) (fun hif=>?_)
 ·
  refine Wt 4 [0] hs rfl<|T_ret<|Zz results211 rfl ?_
  unfold nodeE;rw [if_neg Z47]
  rw [if_pos (hj.1 hif)]
  exact ⟨_,[],hs.done,rfl,rfl⟩
 refine Wt 4 [0,0] hs rfl<|Zy hs (Yc rfl (fun h55=>?_) fun h55=>?_)
 ·
  refine Wp 3 [1,0] hs rfl<|Zg hs rfl (Y_buildA underlying104 sizeOf102 zeroValue104 rfl rfl (cs:=[_,_,_,_]) rfl<|Zg hs rfl (Y_neqWS (a:=[c0,c1,c2,c3]) (b:=[0,0,0,0]) underlying104 sizeOf102 isAgg102 underlying102 rfl rfl rfl rfl rfl hc.2 dC (fun h60=>?_) (fun h60=>?_)))
  ·
   refine Wp 8 [2,2,52,0] hs rfl<|T_ret<|Zz results211 rfl ?_
   unfold nodeE;rw [if_neg Z47]
   rw [if_neg (not_of hj hif)]
   rw [if_pos ⟨by dsimp only;omega,h60⟩]
   exact ⟨_,[],hs.done,rfl,rfl⟩
  refine Wp 8 [2,2,52,0,0] hs rfl<|Zy hs (Yc rfl (fun h65=>?_) fun h65=>?_)
  ·
   refine Wp 8 [0,7,0] hs rfl<|Zy hs (Yc rfl (fun h68=>?_) fun h68=>?_)
   ·
    refine Wp 11 [0,0] hs rfl<|T_ret<|Zz results211 rfl ?_
    unfold nodeE;rw [if_neg Z47]
    rw [if_neg (not_of hj hif)]
    rw [if_neg (fun h=>h.2 h60)]
    rw [if_pos Z47,if_pos Z47]
    exact ⟨_,[],hs.done,rfl,rfl⟩
   refine Wp 3 [8,0] hs rfl<|Zg hs rfl (Yc rfl (fun h72=>?_) fun h72=>?_)
   ·
    refine Wp 7 [0,0] hs rfl<|T_ret<|Zz results211 rfl ?_
    unfold nodeE;rw [if_neg Z47]
    rw [if_neg (not_of hj hif)]
    rw [if_neg (fun h=>h.2 h60)]
    rw [if_pos Z47,if_pos Z47]
    exact ⟨_,[],hs.done,rfl,rfl⟩
   refine Wp 8 [0,0] hs rfl<|T_ret<|Zz results211 rfl ?_
   unfold nodeE;rw [if_neg Z47]
   rw [if_neg (not_of hj hif)]
   rw [if_neg (fun h=>h.2 h60)]
   rw [if_pos Z47,if_neg Z47]
   exact ⟨_,[],hs.done,rfl,rfl⟩
  refine Wp 8 [0,7,0] hs rfl<|Zy hs (Yc rfl (fun h77=>?_) fun h77=>?_)
  ·
   refine Wp 9 [0,0] hs rfl<|T_ret<|Zz results211 rfl ?_
   unfold nodeE;rw [if_neg Z47]
   rw [if_neg (not_of hj hif)]
   rw [if_neg (fun h=>h.2 h60)]
   rw [if_neg Z47]
   rw [if_pos Z47]
   exact ⟨_,[],hs.done,rfl,rfl⟩
  refine Wp 6 [0,8,0] hs rfl<|Zy hs (Yc rfl (fun h80=>?_) fun h80=>?_)
  ·
   refine Wp 7 [0,0] hs rfl<|T_ret<|Zz results211 rfl ?_
   unfold nodeE;rw [if_neg Z47]
   rw [if_neg (not_of hj hif)]
   rw [if_neg (fun h=>h.2 h60)]
   rw [if_neg Z47]
   rw [if_pos Z47]
   exact ⟨_,[],hs.done,rfl,rfl⟩
  refine Wp 8 [0,7,0] hs rfl<|Zy hs (Yc rfl (fun h84=>?_) fun h84=>?_)
  ·
   refine Wp 9 [0,0] hs rfl<|T_ret<|Zz results211 rfl ?_
   unfold nodeE;rw [if_neg Z47]
   rw [if_neg (not_of hj hif)]
   rw [if_neg (fun h=>h.2 h60)]
   rw [if_neg Z47]
   rw [if_neg Z47]
   rw [if_pos Z47]
   exact ⟨_,[],hs.done,rfl,rfl⟩
  refine Wp 6 [0,8,0] hs rfl<|Zy hs (Yc rfl (fun h87=>?_) fun h87=>?_)
  ·
   refine Wp 7 [0,0] hs rfl<|T_ret<|Zz results211 rfl ?_
   unfold nodeE;rw [if_neg Z47]
   rw [if_neg (not_of hj hif)]
   rw [if_neg (fun h=>h.2 h60)]
   rw [if_neg Z47]
   rw [if_neg Z47]
   rw [if_pos Z47]
   exact ⟨_,[],hs.done,rfl,rfl⟩
  refine Wp 7 [0,8,0] hs rfl<|Zy hs (Yc rfl (fun h91=>?_) fun h91=>?_)
  ·
   refine Wp 5 [8,0,7,0] hs rfl<|Zg hs rfl (Yc rfl (fun h97=>?_) fun h97=>?_)
   ·
    refine Wp 8 [1,88,0] hs rfl<|T_ret<|Zz results211 rfl ?_
    unfold nodeE;rw [if_neg Z47]
    rw [if_neg (not_of hj hif)]
    rw [if_neg (fun h=>h.2 h60)]
    rw [if_neg Z47]
    rw [if_neg Z47]
    rw [if_neg Z47]
    rw [if_pos Z47]
    exact ⟨_,[],hs.done,rfl,rfl⟩
   refine Wp 5 [1,88] hs rfl<|Wu 4 [0] hs rfl<|T_ret<|Zz results211 rfl ?_
   unfold nodeE;rw [if_neg Z47]
   rw [if_neg (not_of hj hif)]
   rw [if_neg (fun h=>h.2 h60)]
   rw [if_neg Z47]
   rw [if_neg Z47]
   rw [if_neg Z47]
   rw [if_neg Z47]
   exact ⟨_,[],hs.done,rfl,rfl⟩
  refine Wp 11 [1,88] hs rfl<|Wu 4 [0] hs rfl<|T_ret<|Zz results211 rfl ?_
  unfold nodeE;rw [if_neg Z47]
  rw [if_neg (not_of hj hif)]
  rw [if_neg (fun h=>h.2 h60)]
  rw [if_neg Z47]
  rw [if_neg Z47]
  rw [if_neg Z47]
  rw [if_neg Z47]
  exact ⟨_,[],hs.done,rfl,rfl⟩
 refine Wp 13 [2,2,52,0,0] hs rfl<|Zy hs (Yc rfl (fun h65=>?_) fun h65=>?_)
 ·
  refine Wp 8 [0,7,0] hs rfl<|Zy hs (Yc rfl (fun h68=>?_) fun h68=>?_)
  ·
   refine Wp 11 [0,0] hs rfl<|T_ret<|Zz results211 rfl ?_
   unfold nodeE;rw [if_neg Z47]
   rw [if_neg (not_of hj hif)]
   rw [if_neg (fun h=>absurd h.1 Z47)]
   rw [if_pos Z47,if_pos Z47]
   exact ⟨_,[],hs.done,rfl,rfl⟩
  refine Wp 3 [8,0] hs rfl<|Zg hs rfl (Yc rfl (fun h72=>?_) fun h72=>?_)
  ·
   refine Wp 7 [0,0] hs rfl<|T_ret<|Zz results211 rfl ?_
   unfold nodeE;rw [if_neg Z47]
   rw [if_neg (not_of hj hif)]
   rw [if_neg (fun h=>absurd h.1 Z47)]
   rw [if_pos Z47,if_pos Z47]
   exact ⟨_,[],hs.done,rfl,rfl⟩
  refine Wp 8 [0,0] hs rfl<|T_ret<|Zz results211 rfl ?_
  unfold nodeE;rw [if_neg Z47]
  rw [if_neg (not_of hj hif)]
  rw [if_neg (fun h=>absurd h.1 Z47)]
  rw [if_pos Z47,if_neg Z47]
  exact ⟨_,[],hs.done,rfl,rfl⟩
 refine Wp 8 [0,7,0] hs rfl<|Zy hs (Yc rfl (fun h77=>?_) fun h77=>?_)
 ·
  refine Wp 9 [0,0] hs rfl<|T_ret<|Zz results211 rfl ?_
  unfold nodeE;rw [if_neg Z47]
  rw [if_neg (not_of hj hif)]
  rw [if_neg (fun h=>absurd h.1 Z47)]
  rw [if_neg Z47]
  rw [if_pos Z47]
  exact ⟨_,[],hs.done,rfl,rfl⟩
 refine Wp 6 [0,8,0] hs rfl<|Zy hs (Yc rfl (fun h80=>?_) fun h80=>?_)
 ·
  refine Wp 7 [0,0] hs rfl<|T_ret<|Zz results211 rfl ?_
  unfold nodeE;rw [if_neg Z47]
  rw [if_neg (not_of hj hif)]
  rw [if_neg (fun h=>absurd h.1 Z47)]
  rw [if_neg Z47]
  rw [if_pos Z47]
  exact ⟨_,[],hs.done,rfl,rfl⟩
 refine Wp 8 [0,7,0] hs rfl<|Zy hs (Yc rfl (fun h84=>?_) fun h84=>?_)
 ·
  refine Wp 9 [0,0] hs rfl<|T_ret<|Zz results211 rfl ?_
  unfold nodeE;rw [if_neg Z47]
  rw [if_neg (not_of hj hif)]
  rw [if_neg (fun h=>absurd h.1 Z47)]
  rw [if_neg Z47]
  rw [if_neg Z47]
  rw [if_pos Z47]
  exact ⟨_,[],hs.done,rfl,rfl⟩
 refine Wp 6 [0,8,0] hs rfl<|Zy hs (Yc rfl (fun h87=>?_) fun h87=>?_)
 ·
  refine Wp 7 [0,0] hs rfl<|T_ret<|Zz results211 rfl ?_
  unfold nodeE;rw [if_neg Z47]
  rw [if_neg (not_of hj hif)]
  rw [if_neg (fun h=>absurd h.1 Z47)]
  rw [if_neg Z47]
  rw [if_neg Z47]
  rw [if_pos Z47]
  exact ⟨_,[],hs.done,rfl,rfl⟩
 refine Wp 7 [0,8,0] hs rfl<|Zy hs (Yc rfl (fun h91=>?_) fun h91=>?_)
 ·
  refine Wp 5 [8,0,7,0] hs rfl<|Zg hs rfl (Yc rfl (fun h97=>?_) fun h97=>?_)
  ·
   refine Wp 8 [1,88,0] hs rfl<|T_ret<|Zz results211 rfl ?_
   unfold nodeE;rw [if_neg Z47]
   rw [if_neg (not_of hj hif)]
   rw [if_neg (fun h=>absurd h.1 Z47)]
   rw [if_neg Z47]
   rw [if_neg Z47]
   rw [if_neg Z47]
   rw [if_pos Z47]
   exact ⟨_,[],hs.done,rfl,rfl⟩
  refine Wp 5 [1,88] hs rfl<|Wu 4 [0] hs rfl<|T_ret<|Zz results211 rfl ?_
  unfold nodeE;rw [if_neg Z47]
  rw [if_neg (not_of hj hif)]
  rw [if_neg (fun h=>absurd h.1 Z47)]
  rw [if_neg Z47]
  rw [if_neg Z47]
  rw [if_neg Z47]
  rw [if_neg Z47]
  exact ⟨_,[],hs.done,rfl,rfl⟩
 refine Wp 11 [1,88] hs rfl<|Wu 4 [0] hs rfl<|T_ret<|Zz results211 rfl ?_
 unfold nodeE;rw [if_neg Z47]
 rw [if_neg (not_of hj hif)]
 rw [if_neg (fun h=>absurd h.1 Z47)]
 rw [if_neg Z47]
 rw [if_neg Z47]
 rw [if_neg Z47]
 rw [if_neg Z47]
 exact ⟨_,[],hs.done,rfl,rfl⟩
theorem rxv_ok {G:Ghost} {v:Value} {l:List NodeV} (hx:Rx G v l) (hl:l.length≤1000000000) :
  FnOk prog 199 [v] G [] fun r _ H'=>H'=[]∧r=Vi (validF l):=by
 obtain ⟨A,cap,rfl⟩:=LstR.slice hx
 refine FnOk.of_T [(0,_)] func199 rfl ntmps199 sM rfl fun w0 hs=>?_
 have hx0:=hx
 refine Wt 10 [0] hs rfl<|Zy hs (Yc rfl (fun h12=>?_) fun h12=>?_)
 ·
  refine Wp 7 [0,0] hs rfl<|T_ret<|Zz results199 rfl ?_
  rw [valid_big oM]
  exact ⟨_,[],hs.done,rfl,rfl⟩
 refine Wp 7 [0] hs rfl<|Zy hs (Yc rfl (fun h16=>?_) fun h16=>?_)
 ·
  refine Wp 7 [0,0] hs rfl<|T_ret<|Zz results199 rfl ?_
  rw [valid_nil oM]
  exact ⟨_,[],hs.done,rfl,rfl⟩
 refine Wp 8 [0] hs rfl<|O_s (S_make (n:=l.length) (m:=l.length) hs underlying45 TI3 rfl rfl rfl oM oM oM fun b19 _ hs =>Wp 9 [0,0] hs rfl<|Zl [0,3,20,21,22] (fun m E w=>∃ (k:Nat) (cs:List Nat) (G':Ghost),k≤l.length∧cs=(l.take k).foldl stepC (List.replicate l.length 0)∧errF 0 l=errF k (l.drop k)∧cs.length=l.length∧(∀ x∈cs,x≤2*k)∧m=l.length-k∧E=⟨[],[(0,(.slice A l.length cap)),(3,Vs b19 l.length l.length),(20,(.slice A l.length cap)),(21,Vi ((l.length:Nat):Int)),(22,Vi (k:Int))]⟩∧St ⟨w0,G,feet []⟩ G' [.row 3 1 (Vs b19 l.length l.length) l.length (cs.map natW)] w) rfl (⟨0,List.replicate l.length 0,_,by omega,rfl,rfl,by simp,fun x hx=>by rw [List.eq_of_mem_replicate hx];exact Nat.zero_le _,rfl,rfl,by rw [List.map_replicate];exact hs⟩) fun m E w hI=>?_)
 obtain ⟨k,cs,G',hk,hcs,herr,hcl,hcb,rfl,rfl,hs⟩:=hI
 have hx:=hx0.mono hs.le
 refine Wt 2 [] hs rfl<|Zy hs (Yc rfl (fun h23=>?_) fun h23=>?_)
 ·
  refine Wp 9 [0] hs rfl<|Zy hs (Y_idxS hx k underlying110 sizeOf152 rfl rfl rfl oM fun p25 c25 hp25 hc25 hR25=>?_)
  obtain ⟨rfl,hco⟩:=hR25
  obtain ⟨nk,hnk⟩:∃ n,n=l[k]:=⟨_,rfl⟩
  rw [← hnk] at hp25 hco
  obtain ⟨kd,cc,ll,rr,mn,mx⟩:=nk
  obtain ⟨c0,c1,c2,c3,rfl⟩:=four_of hco.1
  refine Zy hs (Y_ldAG (vs:=[Vi kd,u64V c0,u64V c1,u64V c2,u64V c3,Vi ll,Vi rr,Vi mn,Vi mx]) isAgg152 sizeOf152 rfl hp25 rfl<|O_s (Sa hs zeroValue152 rfl fun b5 _ hs=>Wp 1 [] hs rfl<|O_n (Sg hs rfl (rfl) fun _ hs=>Wp 6 [0,0] hs rfl<|O_s (Sc (chk_ok (n:=⟨kd,[c0,c1,c2,c3],ll,rr,mn,mx⟩) (i:=k) hco) hs rfl fun v1 G' H' _ hR hG29 hs=>?_))))
  obtain ⟨rfl,rfl⟩:=hR
  replace hs:=hs.n rfl
  replace hx:=hx.mono hG29
  refine Wp 5 [0] hs rfl<|Zy hs (Yc rfl (fun h31=>?_) fun h31=>?_)
  ·
   refine Wp 7 [0,0] hs rfl<|T_ret<|Zz results199 rfl ?_
   have he:=errF_bad (l:=l) (k:=k) oM (by rw [← hnk];exact h31)
   rw [valid_err oM oM (by rw [herr,he,← hnk];exact h31),herr,he,← hnk]
   exact ⟨_,[],hs.done,rfl,rfl⟩
  refine Wp 3 [0] hs rfl ?_
  have hne:nodeE ⟨kd,[c0,c1,c2,c3],ll,rr,mn,mx⟩ k=0:=by omega
  refine Wu 5 [0,0] hs rfl<|O_s (Sc (ari_ok) hs rfl fun v2 G' H' _ hR hG35 hs=>?_)
  obtain ⟨rfl,rfl⟩:=hR
  replace hs:=hs.n rfl
  replace hx:=hx.mono hG35
  refine Zy hs (Yc rfl (fun h36=>?_) fun h36=>?_)
  ·
   refine Wp 1 [0] hs rfl ?_
   have hop:=ops_l (nodeE_ops hne) Z47
   dsimp only at hop
   obtain ⟨L,rfl⟩:∃ L:Nat,ll=(L:Int):=Int.eq_ofNat_of_zero_le hop.1
   have hL:L<cs.length:=by omega
   refine Wu 5 [5,0] hs rfl<|Zy hs (Y_idxRow (L) underlying45 sizeOf3 rfl rfl rfl oM<|Zy hs (Y_ldRow 1 rfl isAgg3 rfl (by rw [List.getElem?_map,List.getElem?_eq_getElem hL];rfl) ?_))
   refine Zy hs (Y_add (c:=((cs[L]'hL+1:Nat):Int)) rfl rfl oM (by have:=hcb _ (List.getElem_mem hL);omega)<|Zy hs (Y_idxRow (L) underlying45 sizeOf3 rfl rfl rfl oM<|O_n (S_stRow hs.f1 sizeOf3 rfl rfl rfl oM fun _ hs =>Wp 1 [6,0,3,5,20,21,22] hs rfl ?_)))
   rw [set_mod hL] at hs
   refine Wu 4 [0,1] hs rfl<|O_s (Sc (ari_ok) hs rfl fun v3 G' H' _ hR hG46 hs=>?_)
   obtain ⟨rfl,rfl⟩:=hR
   replace hs:=hs.n rfl
   replace hx:=hx.mono hG46
   refine Zy hs (Yc rfl (fun h47=>?_) fun h47=>?_)
   ·
    refine Wp 1 [0] hs rfl ?_
    have hop2:=ops_r (nodeE_ops hne) Z47
    dsimp only at hop2
    obtain ⟨R,rfl⟩:∃ R:Nat,rr=(R:Int):=Int.eq_ofNat_of_zero_le hop2.1
    have hR:R<(cs.modify L (·+1)).length:=by rw [List.length_modify];omega
    refine Wu 5 [6,1] hs rfl<|Zy hs (Y_idxRow (R) underlying45 sizeOf3 rfl rfl rfl oM<|Zy hs (Y_ldRow 0 rfl isAgg3 rfl (by rw [List.getElem?_map,List.getElem?_eq_getElem hR];rfl) ?_))
    refine Zy hs (Y_add (c:=(((cs.modify L (·+1))[R]'hR+1:Nat):Int)) rfl rfl oM (by have:=mod_le hcb _ (List.getElem_mem hR);omega)<|Zy hs (Y_idxRow (R) underlying45 sizeOf3 rfl rfl rfl oM<|O_n (S_stRow hs sizeOf3 rfl rfl rfl oM fun _ hs =>Wp 1 [0] hs rfl ?_)))
    rw [set_mod hR] at hs
    refine Zr<|Zy hs (Ya (s:=((k+1:Nat):Int)) rfl<|Wp 1 [] hs rfl<|Zx [0,3,20,21,22] rfl ⟨k+1,stepC cs l[k],_,by omega,by rw [foldl_take_succ _ _ _ _ oM,← hcs],by rw [herr];exact errF_step oM (by rw [← hnk];exact hne),by rw [stepC_len];exact hcl,fun x hx=>by have:=stepC_le hcb x hx;omega,rfl,rfl,by rw [← hnk];unfold stepC;rw [if_pos Z47];exact hs.weak hs.le (Ghost.le.refl _) (List.sublist_append_left [_] _)⟩)
   refine Wp 4 [0] hs rfl<|Zy hs (Ya (s:=((k+1:Nat):Int)) rfl<|Wp 1 [] hs rfl<|Zx [0,3,20,21,22] rfl ⟨k+1,stepC cs l[k],_,by omega,by rw [foldl_take_succ _ _ _ _ oM,← hcs],by rw [herr];exact errF_step oM (by rw [← hnk];exact hne),by rw [stepC_len];exact hcl,fun x hx=>by have:=stepC_le hcb x hx;omega,rfl,rfl,by rw [← hnk];unfold stepC;rw [if_neg Z47,if_pos Z47];exact hs.weak hs.le (Ghost.le.refl _) (List.sublist_append_left [_] _)⟩)
  refine Wp 7 [0,0,0] hs rfl<|O_s (Sc (ari_ok) hs rfl fun v4 G' H' _ hR hG46 hs=>?_)
  obtain ⟨rfl,rfl⟩:=hR
  replace hs:=hs.n rfl
  replace hx:=hx.mono hG46
  refine Zy hs (Y_cmpF rfl rfl rfl oM<|Wp 4 [7,0,3,5,20,21,22,47] hs rfl<|Zy hs (Ya (s:=((k+1:Nat):Int)) rfl<|Wp 1 [] hs rfl ?_))
  have hs:=hs.f1
  refine Zx [0,3,20,21,22] rfl ⟨k+1,stepC cs l[k],_,by omega,by rw [foldl_take_succ _ _ _ _ oM,← hcs],by rw [herr];exact errF_step oM (by rw [← hnk];exact hne),by rw [stepC_len];exact hcl,fun x hx=>by have:=stepC_le hcb x hx;omega,rfl,rfl,by rw [← hnk];unfold stepC;rw [if_neg Z47,if_neg Z47];exact hs.weak hs.le (Ghost.le.refl _) (List.sublist_append_left [_] _)⟩
 refine Wp 4 [0] hs rfl ?_
 obtain rfl:k=l.length:=by omega
 rw [List.take_length] at hcs
 have hcs':cntF l=cs:=hcs.symm
 rw [List.drop_length] at herr
 have h0e:errF 0 l=0:=herr
 obtain ⟨_,hG17,hsl,hs⟩:=hs.fixRow noM
 have hI:=ints_nat hsl oM
 refine Wu 6 [] hs rfl<|Zy hs (Y_sub (c:=((l.length-1:Nat):Int)) rfl rfl oM oM<|Zy hs (Y_sliceI hI 0 (l.length-1) underlying45 sizeOf3 rfl rfl ⟨_,_,rfl,rfl⟩ oM Z40 fun s60 hs60=>?_))
 obtain ⟨A60,c60,rfl,_⟩:=id hs60
 refine Wp 3 [0] hs rfl<|Zl [60,61,62] (fun m E w=>∃ (j:Nat) (G':Ghost),j≤l.length-1∧(∀ i,i<j→cs.getD i 0=1)∧Ints G' (.slice A60 (((cs.map fun n:Nat=>(n:Int)).drop 0).take (l.length-1-0)).length c60) (((cs.map fun n:Nat=>(n:Int)).drop 0).take (l.length-1-0))∧m=l.length-1-j∧E=⟨[],[(60,.slice A60 (((cs.map fun n:Nat=>(n:Int)).drop 0).take (l.length-1-0)).length c60),(61,Vi ((((cs.map fun n:Nat=>(n:Int)).drop 0).take (l.length-1-0)).length:Int)),(62,Vi (j:Int))]⟩∧St ⟨w0,G,feet []⟩ G' [] w) rfl (⟨0,_,by omega,fun i hi=>absurd hi oM,hs60,rfl,rfl,hs⟩) fun m E w hI=>?_
 obtain ⟨j,G',hj,hone,hsj,rfl,rfl,hs⟩:=hI
 have hx:=hx0.mono hs.le
 have hlen:(((cs.map fun n:Nat=>(n:Int)).drop 0).take (l.length-1-0)).length=l.length-1:=by rw [List.length_take,List.length_drop,List.length_map];omega
 refine Wt 2 [] hs rfl<|Zy hs (Yc rfl (fun h63=>?_) fun h63=>?_)
 ·
  refine Wp 8 [0] hs rfl<|Zy hs (Y_idxI hsj j underlying45 sizeOf3 rfl rfl rfl oM fun p64 hp64 =>Zy hs (Yg rfl (hp64)<|Wp 5 [0] hs rfl ?_))
  have hel:(((cs.map fun n:Nat=>(n:Int)).drop 0).take (l.length-1-0))[j]'oM=((cs[j]'oM:Nat):Int):=by simp
  refine Zy hs (Yc rfl (fun h67=>?_) fun h67=>?_)
  ·
   refine Wp 6 [0,0] hs rfl<|T_ret<|Zz results199 rfl ?_
   rw [valid_cnt oM oM h0e,hcs',ones_not (i:=j) oM oM (fun h=>h67 (by rw [hel];omega))]
   exact ⟨_,[],hs.done,rfl,rfl⟩
  refine Wp 4 [0] hs rfl<|Zy hs (Ya (s:=((j+1:Nat):Int)) rfl<|Wp 1 [] hs rfl ?_)
  have h1j:cs.getD j 0=1:=by rw [List.getD_eq_getElem?_getD,List.getElem?_eq_getElem oM,Option.getD_some];omega
  refine Zx [60,61,62] rfl ⟨j+1,_,by omega,fun i hi=>(Nat.lt_or_ge i j).elim (hone i) (fun h'=>by rw [show i=j by omega];exact h1j),hsj,rfl,rfl,hs⟩
 refine Wp 4 [0] hs rfl<|Wu 4 [0] hs rfl<|T_ret<|Zz results199 rfl ?_
 rw [valid_cnt oM oM h0e,hcs',ones_all (m:=l.length-1) (fun i hi=>hone i oM)]
 exact ⟨_,[],hs.done,rfl,rfl⟩
theorem TI226:TI prog 226 (.agg #[Vn,Vn,Vn]) 3 72:=TI.of kR
theorem node3_ok {G:Ghost} {D:Dfa} {lv:Value} {c0 c1 c2 c3 p0 p1 p2 p3 q0 q1 q2 q3:Nat} {x y:UInt8} (hwc:∀ w∈[c0,c1,c2,c3],w<W64) (hp:interF (notF [0,0,0,0]) [c0,c1,c2,c3]=[p0,p1,p2,p3]) (hq:minusF (notF [0,0,0,0]) [c0,c1,c2,c3]=[q0,q1,q2,q3]) (hp0:[p0,p1,p2,p3]≠[0,0,0,0]) (hq0:[q0,q1,q2,q3]≠[0,0,0,0]) (hwp:∀ w∈[p0,p1,p2,p3],w<W64) (hwq:∀ w∈[q0,q1,q2,q3],w<W64) (hT:Tab G) (hx:(bytesF [p0,p1,p2,p3])[0]?=some x) (hy:(bytesF [q0,q1,q2,q3])[0]?=some y) (hlt:y.toNat<x.toNat) (hsz:sizeF [c0,c1,c2,c3]≠0) (hhx:hasF [c0,c1,c2,c3] x=true) (hhy:hasF [c0,c1,c2,c3] y=false) (hv:validD (lettD [p0,p1,p2,p3] [q0,q1,q2,q3])=true) (hok:(tabF (lettD [p0,p1,p2,p3] [q0,q1,q2,q3])).ok) (hD:canonF (tabF (lettD [p0,p1,p2,p3] [q0,q1,q2,q3]))=some D) :
  FnOk prog 200 [.agg #[Vi 3,u64V c0,u64V c1,u64V c2,u64V c3,Vi 0,Vi 0,Vi 0,Vi 0],lv] G [] fun r G' H'=>H'=[]∧∃ vd,r=.tuple #[vd,Vi 0]∧DfR G' vd D:=by
 refine FnOk.of_T [(0,_),(1,_)] func200 rfl ntmps200 sM rfl fun w0 hs=>?_
 have hT0:=hT
 refine Wt 2 [] hs rfl<|O_s (Sb hs rfl fun b2 _ hs=>O_s (Sa hs zeroValue226 rfl fun b4 _ hs=>Wp 31 [0,0,1,0,0,0,0,1,1] hs rfl<|O_s (Sc (lett_ok hwc hp hq hp0 hq0 hwp hwq hT hx hy hlt hsz hhx hhy hv hok hD) hs rfl fun v1 G' H' _ hR hG22 hs=>?_)))
 obtain ⟨rfl,vd,rfl,hz⟩:=hR
 replace hs:=hs.n rfl
 obtain ⟨zc,zn,za,rfl,hzC,hzN,hzA⟩:=hz
 obtain ⟨Cz,cz,rfl⟩:=LstR.slice hzC
 obtain ⟨Nz,nz,rfl⟩:=LstR.slice hzN
 obtain ⟨Az,az,rfl,_⟩:=id hzA
 refine Wp 2 [] hs rfl<|O_n (Sg hs rfl (rfl) fun _ hs=>Wp 2 [0] hs rfl<|T_ret ?_)
 have hr:=hs
 refine Rt_fin (vs:=[_,_]) results200 rfl ⟨ResOk_blk 0 hr isAgg226 sizeOf226 rfl (cs:=[_,_,_]) rfl rfl,rfl,trivial⟩ ?_
 try dsimp only [tup]
 exact ⟨_,[],hs.done,rfl,_,rfl,_,_,_,rfl,hzC,hzN,hzA⟩
theorem node8_ok {G:Ghost} {bl:Nat} {Ac An Aa:Option Addr} {cc cn ca:Nat} {d E0 D2 D:Dfa} (hC0:ClsL G (.slice Ac d.cls.length cc) d.cls) (hN:LN G (.slice An d.next.length cn) d.next) (hA:Bools G (.slice Aa d.acc.length ca) d.acc) (hT:Tab G) (hok:emptyT.ok) (hE:canonF emptyT=some E0) (hS:starC d=some D2) (hC:concC E0 D2=some D) :
  FnOk prog 200 [.agg #[Vi 8,u64V 0,u64V 0,u64V 0,u64V 0,Vi 0,Vi 0,Vi 0,Vi (-1)],Vs bl 2 2] G [.blk bl 226 [.slice Ac d.cls.length cc,.slice An d.next.length cn,.slice Aa d.acc.length ca,Vn,Vn,Vn]] fun r G' H'=>H'=[.blk bl 226 [.slice Ac d.cls.length cc,.slice An d.next.length cn,.slice Aa d.acc.length ca,Vn,Vn,Vn]]∧∃ vd,r=.tuple #[vd,Vi 0]∧DfR G' vd D:=by
 refine FnOk.of_T [(0,_),(1,_)] func200 rfl ntmps200 sM rfl fun w0 hs=>?_
 have hC00:=hC0
 have hN0:=hN
 have hA0:=hA
 have hT0:=hT
 refine Wt 2 [] hs rfl<|O_s (Sb hs rfl fun b2 _ hs=>O_s (Sa hs zeroValue226 rfl fun b4 _ hs=>Wp 53 [0,0,1,0,0,0,0,0,0,0,4,1,2,4,70] hs rfl<|T_drawS [0,1,2,3,4,5,6,7,8,9,10,11] hs kR ?_))
 replace hs:=hs.drew
 refine Xr [0,1,2] [5,1] hs rfl<|Xt 3 hs rfl (Y_idxBlk 0 underlying252 sizeOf226 rfl rfl rfl dC (m:=0) rfl<|Xr [4,5,6,7,8] [2,7,1,8,1] hs rfl ?_)
 have hle:=hs.le
 refine Xo 9 rfl (Sc (rept_ok ⟨_,_,_,rfl,hC0,hN,hA⟩ hT hok hE hS hC) hs rfl fun v1 G' H' _ hR hG89 hs=>?_)
 obtain ⟨rfl,vd,rfl,hz⟩:=hR
 replace hs:=hs.n rfl
 obtain ⟨zc,zn,za,rfl,hzC,hzN,hzA⟩:=hz
 obtain ⟨Cz,cz,rfl⟩:=LstR.slice hzC
 obtain ⟨Nz,nz,rfl⟩:=LstR.slice hzN
 obtain ⟨Az,az,rfl,_⟩:=id hzA
 refine A_moreS hs hle hG89 (List.Sublist.refl _)<|Xr [10,11] [] hs rfl<|Xn 12 rfl (Sg hs rfl (rfl) fun _ hs=>Xa 13 rfl (S_y hs rfl (Yq rfl<|Xe (Zk [4,5] rfl<|T_ret ?_))))
 have hs:=hs.f2
 have hr:=hs
 refine Rt_fin (vs:=[_,_]) results200 rfl ⟨ResOk_blk 1 hr isAgg226 sizeOf226 rfl (cs:=[_,_,_]) rfl rfl,rfl,trivial⟩ ?_
 try dsimp only [tup]
 exact ⟨_,_,hs.weak hs.le (Ghost.le.refl _) (List.sublist_append_left [_] _),rfl,_,rfl,_,_,_,rfl,hzC,hzN,hzA⟩
theorem build_ok {G:Ghost} {D E0 D2 D3:Dfa} {v:Value} {c0 c1 c2 c3 p0 p1 p2 p3 q0 q1 q2 q3:Nat} {x y:UInt8} (hwc:∀ w∈[c0,c1,c2,c3],w<W64) (hp:interF (notF [0,0,0,0]) [c0,c1,c2,c3]=[p0,p1,p2,p3]) (hq:minusF (notF [0,0,0,0]) [c0,c1,c2,c3]=[q0,q1,q2,q3]) (hp0:[p0,p1,p2,p3]≠[0,0,0,0]) (hq0:[q0,q1,q2,q3]≠[0,0,0,0]) (hwp:∀ w∈[p0,p1,p2,p3],w<W64) (hwq:∀ w∈[q0,q1,q2,q3],w<W64) (hT:Tab G) (hx:(bytesF [p0,p1,p2,p3])[0]?=some x) (hy:(bytesF [q0,q1,q2,q3])[0]?=some y) (hlt:y.toNat<x.toNat) (hsz:sizeF [c0,c1,c2,c3]≠0) (hhx:hasF [c0,c1,c2,c3] x=true) (hhy:hasF [c0,c1,c2,c3] y=false) (hv:validD (lettD [p0,p1,p2,p3] [q0,q1,q2,q3])=true) (hok:(tabF (lettD [p0,p1,p2,p3] [q0,q1,q2,q3])).ok) (hD:canonF (tabF (lettD [p0,p1,p2,p3] [q0,q1,q2,q3]))=some D) (hok2:emptyT.ok) (hE:canonF emptyT=some E0) (hS:starC D=some D2) (hC:concC E0 D2=some D3) (hr:Rx G v (starX [c0,c1,c2,c3])) (hrv:validF (starX [c0,c1,c2,c3])=0) :
  FnOk prog 158 [v] G [] fun r G' H'=>H'=[]∧∃ vd,r=.tuple #[vd,Vi 0]∧DfR G' vd D3:=by
 obtain ⟨Ar,cr,rfl⟩:∃ A c,v=.slice A 2 c:=LstR.slice hr
 change Rx _ (.slice Ar 2 cr) _ at hr
 refine FnOk.of_T [(0,_)] func158 rfl ntmps158 sM rfl fun w0 hs=>?_
 have hr0:=hr
 have hT0:=hT
 refine Wt 2 [] hs rfl<|O_s (Sa hs zeroValue226 rfl fun b2 _ hs=>Wp 6 [0] hs rfl<|O_s (Sc (rxv_ok hr (show 2≤1000000000 by decide)) hs rfl fun v1 G' H' _ hR hG11 hs=>?_))
 obtain ⟨rfl,rfl⟩:=hR
 replace hs:=hs.n rfl
 replace hr:=hr.mono hG11
 replace hT:=hT.mono hG11
 rw [hrv]
 refine Wp 13 [0,0] hs rfl<|O_s (S_makeB (n:=2) hs underlying252 TI226 rfl rfl dC dC (cs:=[Vn,Vn,Vn,Vn,Vn,Vn]) kR fun b18 _ hs =>Wp 9 [0,0] hs rfl<|T_block (T_loopN 3 (L:=[(2,_),(5,_),(19,_),(20,_),(21,_)]) ⟨rfl,rfl,rfl,rfl,rfl,trivial⟩ (U_go<|Wt 12 [0] hs rfl<|Zy hs (Y_idxS hr 0 underlying110 sizeOf152 rfl rfl rfl (by show _<2;decide) fun p24 c24 hp24 hc24 hR24 =>Zy hs (Y_ldAG (vs:=[Vi 3,u64V c0,u64V c1,u64V c2,u64V c3,Vi 0,Vi 0,Vi 0,Vi 0]) isAgg152 sizeOf152 rfl (by have h:=hp24;rw [hR24.1] at h;exact h) rfl<|O_s (Sa hs zeroValue152 rfl fun b7 _ hs=>Wp 1 [] hs rfl<|O_n (S_stA hs sizeOf152 rfl rfl (vs:=[_,_,_,_,_,_,_,_,_]) rfl (rfl) sM (cs':=[_,_,_,_,_,_,_,_,_]) rfl fun _ hs =>Wp 5 [0,0] hs rfl<|O_s (Sc (node3_ok hwc hp hq hp0 hq0 hwp hwq hT hx hy hlt hsz hhx hhy hv hok hD) hs rfl fun v2 G' H' _ hR hG29 hs=>?_))))))))
 obtain ⟨rfl,vd,rfl,hk⟩:=hR
 replace hs:=hs.n rfl
 replace hr:=hr.mono hG29
 replace hT:=hT.mono hG29
 obtain ⟨kc,kn,ka,rfl,hkC,hkN,hkA⟩:=hk
 obtain ⟨Ck,ck,rfl⟩:=LstR.slice hkC
 obtain ⟨Nk,nk,rfl⟩:=LstR.slice hkN
 obtain ⟨Ak,ak,rfl,_⟩:=id hkA
 refine Wp 3 [] hs rfl<|O_s (Sa hs zeroValue226 rfl fun b8 _ hs=>O_n (S_stA hs sizeOf226 rfl rfl (vs:=[_,_,_]) rfl (rfl) sM (cs':=[_,_,_]) rfl fun _ hs =>Wp 14 [0,0,0] hs rfl<|Zy hs (Y_idxBlk 0 underlying252 sizeOf226 rfl rfl rfl dC (m:=0) rfl<|O_n (S_stA hs.f2 sizeOf226 rfl rfl (vs:=[_,_,_]) rfl (rfl) sM (cs':=[_,_,_,_,_,_]) rfl fun _ hs =>Wp 2 [5,2,5,19,20,21] hs rfl<|Zy hs (Y_add (c:=(1)) rfl rfl dC dC<|Wp 1 [] hs rfl<|O_nil ⟨[(2,_),(5,_),(19,_),(20,_),(21,_)],⟨rfl,rfl,rfl,rfl,rfl,trivial⟩,U_go ?_⟩)))))
 refine Wt 12 [0] hs rfl<|Zy hs (Y_idxS hr 1 underlying110 sizeOf152 rfl rfl rfl (by show _<2;decide) fun p24 c24 hp24 hc24 hR24 =>Zy hs (Y_ldAG (vs:=[Vi 8,u64V 0,u64V 0,u64V 0,u64V 0,Vi 0,Vi 0,Vi 0,Vi (-1)]) isAgg152 sizeOf152 rfl (by have h:=hp24;rw [hR24.1] at h;exact h) rfl<|O_s (Sa hs zeroValue152 rfl fun b7 _ hs=>Wp 1 [] hs rfl<|O_n (S_stA hs sizeOf152 rfl rfl (vs:=[_,_,_,_,_,_,_,_,_]) rfl (rfl) sM (cs':=[_,_,_,_,_,_,_,_,_]) rfl fun _ hs =>Wp 5 [0,0] hs rfl<|O_s (Sc (node8_ok hkC hkN hkA hT hok2 hE hS hC) hs.f1 rfl fun v3 G' H' _ hR hG29 hs=>?_)))))
 obtain ⟨rfl,vd,rfl,hz⟩:=hR
 replace hs:=hs.n rfl
 replace hr:=hr.mono hG29
 obtain ⟨zc,zn,za,rfl,hzC,hzN,hzA⟩:=hz
 obtain ⟨Cz,cz,rfl⟩:=LstR.slice hzC
 obtain ⟨Nz,nz,rfl⟩:=LstR.slice hzN
 obtain ⟨Az,az,rfl,_⟩:=id hzA
 refine Wp 3 [] hs rfl<|O_s (Sa hs zeroValue226 rfl fun b8 _ hs=>O_n (S_stA hs sizeOf226 rfl rfl (vs:=[_,_,_]) rfl (rfl) sM (cs':=[_,_,_]) rfl fun _ hs =>Wp 14 [0,0,0] hs rfl<|Zy hs (Y_idxBlk 1 underlying252 sizeOf226 rfl rfl rfl dC (m:=3) rfl<|O_n (S_stA hs.f1 sizeOf226 rfl rfl (vs:=[_,_,_]) rfl (rfl) sM (cs':=[_,_,_,_,_,_]) rfl fun _ hs =>Wp 2 [5,2,5,19,20,21] hs rfl<|Zy hs (Y_add (c:=(2)) rfl rfl dC dC<|Wp 1 [] hs rfl<|O_nil ⟨[(2,_),(5,_),(19,_),(20,_),(21,_)],⟨rfl,rfl,rfl,rfl,rfl,trivial⟩,U_go ?_⟩)))))
 refine Wt 7 [0] hs rfl<|Wu 5 [] hs rfl<|Zy hs (Y_sub (c:=(1)) rfl rfl dC dC<|Zy hs (Y_idxBlk 1 underlying252 sizeOf226 rfl rfl rfl dC (m:=3) rfl<|Wp 1 [0] hs rfl<|O_n (S_stA hs.f5 sizeOf226 rfl rfl (vs:=[_,_,_]) rfl (rfl) sM (cs':=[_,_,_]) rfl fun _ hs =>Wp 2 [0] hs rfl<|T_ret ?_)))
 have hr:=hs
 refine Rt_fin (vs:=[_,_]) results158 rfl ⟨ResOk_blk 0 hr isAgg226 sizeOf226 rfl (cs:=[_,_,_]) rfl rfl,rfl,trivial⟩ ?_
 try dsimp only [tup]
 exact ⟨_,[],hs.done,rfl,_,rfl,_,_,_,rfl,hzC,hzN,hzA⟩
end Go.Proofs.YtkeplgdofphnkaaGreatDoor
