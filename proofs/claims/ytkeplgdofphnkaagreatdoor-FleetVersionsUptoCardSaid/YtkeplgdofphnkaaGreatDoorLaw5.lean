/- The walk of the law FleetVersions: the call returns true, whatever its arguments read, and changes nothing. -/
import Derived.Test.YtkeplgdofphnkaaGreatDoorMI
set_option maxHeartbeats 4000000
set_option maxRecDepth 10000
set_option linter.unusedVariables false
set_option linter.unusedSimpArgs false
set_option linter.unusedSectionVars false
namespace Go.Proofs.YtkeplgdofphnkaaGreatDoor
open Go Go.Ex Go.RowKit Go.Proofs.Tryz
theorem setF_set {f:FltM} {n v:Nat} (h:n<f.nodes.length):(setF f n v).nodes=f.nodes.set n { f.nodes[n] with runs:=(v:Int),claims:=(v:Int) }:=modify_set h
theorem setF_get {f:FltM} {n v:Nat} (h:n<f.nodes.length) (h2:n<(setF f n v).nodes.length):(setF f n v).nodes[n]={ f.nodes[n] with runs:=(v:Int),claims:=(v:Int) }:=by
  simp only [setF_set h,List.getElem_set_self]
theorem setF_ne {f:FltM} {n v:Nat} (h:n<f.nodes.length) {i:Nat} (hi:¬ i=n) (h1:i<(setF f n v).nodes.length) (h2:i<f.nodes.length):(setF f n v).nodes[i]=f.nodes[i]:=by
  simp only [setF_set h]
  exact List.getElem_set_ne (fun e=>hi e.symm) _
theorem setF_mem {f:FltM} {n v:Nat} (h:n<f.nodes.length) {P:NodM→Prop} (h0:∀ x∈f.nodes,P x) (h1:P { f.nodes[n] with runs:=(v:Int),claims:=(v:Int) }):∀ x∈(setF f n v).nodes,P x:=by
  intro x hx
  rw [setF_set h] at hx
  rcases List.mem_or_eq_of_mem_set hx with hx | rfl
  · exact h0 x hx
  · exact h1
theorem setF_ok {f:FltM} {n v:Nat} (hf:FOk f) (h:n<f.nodes.length):FOk (setF f n v) :=
  ⟨⟨by rw [setF_len];exact hf.z.n,hf.z.e,setF_mem h hf.z.v (by have:=hf.z.v f.nodes[n] (List.getElem_mem h);exact this),hf.z.r⟩,hf.o,hf.s,hf.w,hf.pl,hf.rl⟩
theorem setF_c {f:FltM} {n v:Nat} (hC:checkE f=0) (h:n<f.nodes.length) (hv:v<f.nodes[n].vers.length):checkE (setF f n v)=0:=by
  obtain ⟨_,_,hn,_,_⟩:=ce_inv hC
  have ha:(setF f n v).nodes.all (nodeB (setF f n v).progs.length)=f.nodes.all (nodeB f.progs.length):=by
    rw [hn]
    refine List.all_eq_true.2 (setF_mem h (List.all_eq_true.1 hn) ?_)
    have h0:=List.all_eq_true.1 hn _ (List.getElem_mem h)
    unfold nodeB at h0 ⊢
    simp only [Bool.and_eq_true] at h0 ⊢
    exact ⟨h0.1,h0.2.1,inB_iff.2 oM,inB_iff.2 oM⟩
  have hl:(setF f n v).nodes.length=f.nodes.length:=setF_len
  unfold checkE at hC ⊢
  rw [ha,hl];exact hC
theorem setF_run {f:FltM} {n v:Nat} (h:n<f.nodes.length) (hv:v<f.nodes[n].vers.length):runI (setF f n v) (n:Int)=f.nodes[n].vers[v]:=by
  unfold runI
  rw [Int.toNat_natCast,List.getElem?_eq_getElem (by rw [setF_len];exact h),setF_get h]
  show (f.nodes[n].vers[(v:Int).toNat]?).getD 0=_
  rw [Int.toNat_natCast,List.getElem?_eq_getElem hv];rfl
theorem setF_back {f:FltM} {n v r:Nat} (h:n<f.nodes.length) (h1:f.nodes[n].runs=(r:Int)) (h2:f.nodes[n].claims=(r:Int)):setF (setF f n v) n r=f:=by
  have hg:n<(setF f n v).nodes.length:=by rw [setF_len];exact h
  have e:(setF (setF f n v) n r).nodes=f.nodes:=by
    rw [setF_set hg,setF_get h,setF_set h,List.set_set]
    show f.nodes.set n ⟨f.nodes[n].vers,(r:Int),(r:Int),f.nodes[n].up⟩=_
    rw [← h1]
    have h3:(⟨f.nodes[n].vers,f.nodes[n].runs,f.nodes[n].runs,f.nodes[n].up⟩:NodM)=f.nodes[n]:=by
      have:f.nodes[n].claims=f.nodes[n].runs:=h2.trans h1.symm
      cases hx:f.nodes[n] with
      | mk a b c d=>rw [hx] at this;dsimp only at this ⊢;rw [this]
    rw [h3];exact List.set_getElem_self h
  cases f with
  | mk a b c d=>unfold setF at e ⊢;dsimp only at e ⊢;rw [e]
theorem made_same {x:RawM} {y:NodM} (h:y∈(madeF x).nodes):y.claims=y.runs:=by
  have h':y∈(x.nodes.take (ncnt x.size)).map (nodeMd (pcnt x.size)):=h
  obtain ⟨k,_,rfl⟩:=List.mem_map.1 h'
  rfl
theorem lver_ok {G:Ghost} {sz p0 p1 p2 p3 n0 n1 n2 n3 n4:UInt8} {ed r0 r1 r2:Nat} {a b:UInt8} (hT:Tab G) (he:ed<4294967296) (h0:r0<65536) (h1:r1<65536) (h2:r2<65536) :
  FnOk prog 5 [.agg #[.int .u8 (sz.toNat:Int),.int .u8 (p0.toNat:Int),.int .u8 (p1.toNat:Int),.int .u8 (p2.toNat:Int),.int .u8 (p3.toNat:Int),.int .u8 (n0.toNat:Int),.int .u8 (n1.toNat:Int),.int .u8 (n2.toNat:Int),.int .u8 (n3.toNat:Int),.int .u8 (n4.toNat:Int),.int .u32 (ed:Int),.int .u16 (r0:Int),.int .u16 (r1:Int),.int .u16 (r2:Int)],.int .u8 (a.toNat:Int),.int .u8 (b.toNat:Int)] G [] fun r _ H'=>H'=[]∧r=Vt:=by
 obtain ⟨f,hfe⟩:∃ f,f=madeF (rawM sz p0 p1 p2 p3 n0 n1 n2 n3 n4 ed r0 r1 r2):=⟨_,rfl⟩
 have hok:=rawM_ok (sz:=sz) (p0:=p0) (p1:=p1) (p2:=p2) (p3:=p3) (n0:=n0) (n1:=n1) (n2:=n2) (n3:=n3) (n4:=n4) (ed:=ed) (r0:=r0) (r1:=r1) (r2:=r2) h0 h1 h2
 have hfo:FOk f:=by rw [hfe];exact made_fok hok
 have hC:checkE f=0:=by rw [hfe];exact made_ok hok
 have hnn:f.nodes.length=ncnt sz.toNat:=by rw [hfe,made_n hok];rfl
 have hpp:f.progs.length=pcnt sz.toNat:=by rw [hfe,made_p hok];rfl
 have hrr:f.routes.length=rcnt sz.toNat:=by rw [hfe,made_r hok];rfl
 have hn5:=ncnt_le sz.toNat
 have hp5:=pcnt_le sz.toNat
 have hr5:=rcnt_le sz.toNat
 have h12:(rawL f).length≤12:=by rw [hfe];exact made_raw hok
 have hez:=hfo.z.e
 refine FnOk.of_T [(0,_),(1,_),(2,_)] func5 rfl ntmps5 sM rfl fun w0 hs=>?_
 have hT0:=hT
 refine Wt 2 [] hs rfl<|O_s (Sb hs rfl fun b3 _ hs=>Wp 4 [0] hs rfl<|O_s (Sc (sani_ok hT) hs rfl fun v1 G' H' _ hR hG22 hs=>?_))
 obtain ⟨rfl,rfl⟩:=hR
 replace hs:=hs.n rfl
 replace hT:=hT.mono hG22
 refine Wp 5 [0,0] hs rfl<|O_s (Sc (rmad_ok (sz:=sz) (p0:=p0) (p1:=p1) (p2:=p2) (p3:=p3) (n0:=n0) (n1:=n1) (n2:=n2) (n3:=n3) (n4:=n4) (ed:=ed) (r0:=r0) (r1:=r1) (r2:=r2) he h0 h1 h2) hs rfl fun v2 G' H' _ hR hG24 hs=>?_)
 obtain ⟨rfl,hF⟩:=hR
 replace hs:=hs.n rfl
 replace hT:=hT.mono hG24
 rw [← hfe] at hF
 obtain ⟨Ap,An,Ae,Ar,cp,cn,ce,cr,rfl,hf⟩:=hF
 refine O_s (Sa hs zeroValue38 rfl fun b8 _ hs=>O_n (Sg hs rfl (rfl) fun _ hs=>Wp 1 [0] hs rfl ?_))
 obtain ⟨n,hn⟩:∃ z:Nat,z=a.toNat % f.nodes.length:=⟨_,rfl⟩
 have hnl:n<f.nodes.length:=by rw [hn];exact Nat.mod_lt _ oM
 obtain ⟨x,hx⟩:∃ z,z=f.nodes[n]:=⟨_,rfl⟩
 have hni:=node_inv (List.all_eq_true.1 (ce_inv hC).2.2.1 _ (List.getElem_mem hnl))
 rw [← hx] at hni
 have hvz:=hfo.z.v x (by rw [hx];exact List.getElem_mem _)
 obtain ⟨v,hv⟩:∃ z:Nat,z=b.toNat % x.vers.length:=⟨_,rfl⟩
 have hvl:v<x.vers.length:=by rw [hv];exact Nat.mod_lt _ oM
 obtain ⟨rv,hrv⟩:∃ z:Nat,x.runs=(z:Int):=Int.eq_ofNat_of_zero_le hni.2.2.2.1.1
 have hrvl:rv<x.vers.length:=by have:=hni.2.2.2.1.2;omega
 have hcl:x.claims=x.runs:=made_same (x:=(rawM sz p0 p1 p2 p3 n0 n1 n2 n3 n4 ed r0 r1 r2)) (by rw [← hfe,hx];exact List.getElem_mem _)
 refine Wu 3 [] hs rfl<|Zy hs (Y_conv underlying5 underlying3 (c:=(a.toNat:Int)) rfl Z31<|Wp 3 [1,0] hs rfl<|Zy hs (Y_rem (c:=((n:Nat):Int)) rfl rfl oM oM (by rw [hn];exact (Int.natCast_emod _ _).symm)<|Wp 5 [0] hs rfl<|Zy hs (Y_conv underlying5 underlying3 (c:=(b.toNat:Int)) rfl Z32<|Wp 3 [1,0] hs rfl<|Zy hs (Y_idxS hf.n (n) underlying34 sizeOf61 rfl rfl rfl oM fun p36 c36 hp36 hc36 hR36=>?_))))
 rw [← hx] at hR36
 obtain ⟨u36,rfl,hv36⟩:=hR36
 obtain ⟨A36,c36,rfl,_⟩:=id hv36
 refine Zy hs (Y_fieldAddrP O61_0.p rfl<|Zy hs (Yg rfl (hp36 0 (.slice A36 x.vers.length c36) rfl)<|Wp 1 [] hs rfl<|Zy hs (Y_rem (c:=((v:Nat):Int)) rfl rfl oM oM (by rw [hv];exact (Int.natCast_emod _ _).symm)<|Wp 7 [4,7,8,9,10,0] hs rfl<|O_s (Sc (fset_ok (n:=n) (v:=v) hf hfo.z hfo.o hT hfo.s hC hnl (by rw [← hx];exact hvl)) hs rfl fun v3 G' H' _ hR hG45 hs=>?_))))
 obtain ⟨rfl,w45,rfl,hF2⟩:=hR
 replace hs:=hs.n rfl
 replace hT:=hT.mono hG45
 replace hf:=hf.mono hG45
 obtain ⟨g,hge⟩:∃ g,g=setF f n v:=⟨_,rfl⟩
 rw [← hge] at hF2
 obtain ⟨Ap2,An2,Ae2,Ar2,cp2,cn2,ce2,cr2,rfl,hf2⟩:=hF2
 have hgo:FOk g:=by rw [hge];exact setF_ok hfo hnl
 have hgC:checkE g=0:=by rw [hge];exact setF_c hC hnl (by rw [← hx];exact hvl)
 have hgl:g.nodes.length=f.nodes.length:=by rw [hge];exact setF_len
 have hgn:g.nodes[n]'oM={ x with runs:=(v:Int),claims:=(v:Int) }:=by subst hge;rw [hx];exact setF_get hnl _
 have hgi:∀ i,¬ i=n→∀ (h1:i<g.nodes.length) (h2:i<f.nodes.length),g.nodes[i]=f.nodes[i]:=by subst hge;exact fun i h h1 h2=>setF_ne hnl h h1 h2
 have hrun:runI g (n:Int)=x.vers[v]:=by subst hge;subst hx;exact setF_run hnl hvl
 have hback:setF g n rv=f:=by rw [hge];exact setF_back hnl (by rw [← hx];exact hrv) (by rw [← hx];exact hcl.trans hrv)
 have hg12:(rawL g).length≤12:=by rw [hge];exact h12
 have hgr:rawU g=rawU f:=by rw [hge];rfl
 refine Wp 3 [] hs rfl<|O_s (Sa hs zeroValue38 rfl fun b11 _ hs=>O_n (Sg hs rfl (rfl) fun _ hs=>Wp 9 [0,0] hs rfl<|O_yes 50 rfl rfl (Sc (fval_ok (f:=g) hf2 hgo.z hgo.o hT) hs rfl fun v4 G' H' _ hR hG52 hs=>?_)))
 obtain ⟨rfl,rfl⟩:=hR
 replace hs:=hs.n rfl
 replace hT:=hT.mono hG52
 replace hf:=hf.mono hG52
 replace hf2:=hf2.mono hG52
 rw [hgC]
 refine Wp 9 [1,0,1,1] hs rfl<|Zg hs rfl (Y_cmpF rfl rfl rfl oM<|Wp 8 [6,7,8,9,10,11,63,0] hs rfl<|O_s (Sc (fprg_ok (f:=g) (n:=(n:Int)) hf2 hgo.z hgo.o hT hgC) hs rfl fun v5 G' H' _ hR hG67 hs=>?_))
 obtain ⟨rfl,rfl⟩:=hR
 replace hs:=hs.n rfl
 replace hT:=hT.mono hG67
 replace hf:=hf.mono hG67
 replace hf2:=hf2.mono hG67
 rw [if_pos (inB_iff.2 oM),hrun]
 refine Wp 16 [0,1,1] hs rfl<|Zg hs rfl (Y_idxS hf.n (n) underlying34 sizeOf61 rfl rfl rfl oM fun p77 c77 hp77 hc77 hR77=>?_)
 rw [← hx] at hR77
 obtain ⟨u77,rfl,hv77⟩:=hR77
 obtain ⟨A77,c77,rfl,_⟩:=id hv77
 refine Zg hs rfl (Y_fieldAddrP O61_0.p rfl<|Zg hs rfl (Yg rfl (hp77 0 (.slice A77 x.vers.length c77) rfl)<|Wp 1 [] hs rfl<|Zg hs rfl (Y_idxI hv77 v underlying45 sizeOf3 rfl rfl rfl oM fun p81 hp81 =>Zg hs rfl (Yg rfl (hp81)<|Zg hs rfl (Y_cmpF rfl rfl rfl oM<|Wp 5 [1,0] hs rfl<|Zg hs rfl (Y_idxS hf2.n (n) underlying34 sizeOf61 rfl rfl rfl oM fun p89 c89 hp89 hc89 hR89=>?_))))))
 rw [hgn] at hR89
 obtain ⟨u89,rfl,hv89⟩:=hR89
 refine Zg hs rfl (Y_fieldAddrP O61_2.p rfl<|Zg hs rfl (Yg rfl (hp89 2 (Vi (v:Int)) rfl)<|Wp 1 [] hs rfl<|Zg hs rfl (Y_cmpF rfl rfl rfl oM<|Wp 9 [5,7,8,9,11,94,0] hs rfl ?_)))
 have hs:=hs.f2.f2.f2
 refine Zl [7,8,9,11,15] (fun m E w=>∃ (i:Nat) (G2:Ghost),i≤f.nodes.length∧Tab G2∧FltC G2 Ap An Ae Ar cp cn ce cr f∧FltC G2 Ap2 An2 Ae2 Ar2 cp2 cn2 ce2 cr2 g∧m=f.nodes.length-i∧E=⟨[],[(7,Vt),(8,Vp b8),(9,Vi (n:Int)),(11,Vp b11),(15,Vi (i:Int))]⟩∧St ⟨w0,G,feet []⟩ G2 [.blk b11 38 [.slice Ap2 g.progs.length cp2,.slice An2 g.nodes.length cn2,.slice Ae2 g.edges.length ce2,.slice Ar2 g.routes.length cr2],.blk b8 38 [.slice Ap f.progs.length cp,.slice An f.nodes.length cn,.slice Ae f.edges.length ce,.slice Ar f.routes.length cr],.blk b3 28 [.int .u8 (sz.toNat:Int),.int .u8 (p0.toNat:Int),.int .u8 (p1.toNat:Int),.int .u8 (p2.toNat:Int),.int .u8 (p3.toNat:Int),.int .u8 (n0.toNat:Int),.int .u8 (n1.toNat:Int),.int .u8 (n2.toNat:Int),.int .u8 (n3.toNat:Int),.int .u8 (n4.toNat:Int),.int .u32 (ed:Int),.int .u16 (r0:Int),.int .u16 (r1:Int),.int .u16 (r2:Int)]] w) rfl (⟨0,_,by omega,hT,hf,hf2,rfl,rfl,hs.weak hs.le (Ghost.le.refl _) (List.sublist_append_left [_,_,_] _)⟩) fun m E w hI=>?_
 obtain ⟨i,G2,hi,hT,hf,hf2,rfl,rfl,hs⟩:=hI
 have hT:=hT0.mono hs.le
 refine Wt 7 [1,1] hs rfl<|Zy hs (Yc rfl (fun h99=>?_) fun h99=>?_)
 ·
  refine Wp 3 [0] hs rfl ?_
  obtain ⟨y,hy⟩:∃ z,z=f.nodes[i]'oM:=⟨_,rfl⟩
  refine Wu 3 [] hs rfl<|T_drawS [0,1,2,3,4,5,6,7,8,9,10,11,12,13,14,15,16] hs kR ?_
  replace hs:=hs.drew
  refine Xr [0,1] [] hs rfl<|Xt 2 hs rfl (Y_cmpS rfl rfl rfl (fun h104=>?_) (fun h104=>?_))
  ·
   dsimp only [cmpP] at h104
   refine Xr [3,4,5,6] [1,1] hs rfl<|Xt 7 hs rfl (Y_idxS hf.n (i) underlying34 sizeOf61 rfl rfl rfl oM fun p109 c109 hp109 hc109 hR109=>?_)
   rw [← hy] at hR109
   obtain ⟨u109,rfl,hv109⟩:=hR109
   obtain ⟨A109,c109,rfl,_⟩:=id hv109
   refine Xt 8 hs rfl (Y_ldAG (vs:=[.slice A109 y.vers.length c109,Vi y.runs,Vi y.claims,.bool y.up]) isAgg61 sizeOf61 rfl hp109 rfl<|Xr [9,10,11] [1,0] hs rfl<|Xt 12 hs rfl (Y_idxS hf2.n (i) underlying34 sizeOf61 rfl rfl rfl oM fun p114 c114 hp114 hc114 hR114=>?_))
   rw [hgi i oM oM oM,← hy] at hR114
   obtain ⟨u114,rfl,hv114⟩:=hR114
   obtain ⟨A114,c114,rfl,_⟩:=id hv114
   refine Xt 13 hs rfl (Y_ldAG (vs:=[.slice A114 y.vers.length c114,Vi y.runs,Vi y.claims,.bool y.up]) isAgg61 sizeOf61 rfl hp114 rfl ?_)
   have hle:=hs.le
   refine Xo 14 rfl (Sc (rsnd_ok hv109 hv114 (by have:=hfo.z.v y (by rw [hy];exact List.getElem_mem _);omega)) hs rfl fun v6 G' H' _ hR hG116 hs=>?_)
   obtain ⟨rfl,rfl⟩:=hR
   replace hs:=hs.n rfl
   replace hT:=hT.mono hG116
   replace hf:=hf.mono hG116
   replace hf2:=hf2.mono hG116
   refine A_moreS hs hle hG116 (List.Sublist.refl _)<|Xr [15,16] [] hs rfl<|Xe (Zk [7,8,9,11,15,118] rfl<|Wu 4 [] hs rfl<|Zy hs (Ya (s:=((i+1:Nat):Int)) rfl<|Wp 1 [] hs rfl ?_))
   have hs:=hs.f2.f2.f2
   refine Zx [7,8,9,11,15] rfl ⟨i+1,_,by omega,hT,hf,hf2,rfl,rfl,hs.weak hs.le (Ghost.le.refl _) (List.sublist_append_left [_,_,_] _)⟩
  dsimp only [cmpP] at h104
  refine Xr [3,4,5,6,7,8,9,10,11,12,13,14,15,16] [] hs rfl<|Xe (Zk [7,8,9,11,15,118] rfl<|Wu 4 [] hs rfl<|Zy hs (Ya (s:=((i+1:Nat):Int)) rfl<|Wp 1 [] hs rfl ?_))
  have hs:=hs.f2.f2.f2
  refine Zx [7,8,9,11,15] rfl ⟨i+1,_,by omega,hT,hf,hf2,rfl,rfl,hs.weak hs.le (Ghost.le.refl _) (List.sublist_append_left [_,_,_] _)⟩
 refine Wp 3 [0] hs rfl<|Wu 3 [1] hs rfl<|O_s (Sc (fuse_ok hf hfo.z hfo.o hT hC h12) hs rfl fun v7 G' H' _ hR hG121 hs=>?_)
 obtain ⟨rfl,vU,u,rfl,hU,hUi,hul⟩:=hR
 replace hs:=hs.n rfl
 replace hT:=hT.mono hG121
 replace hf:=hf.mono hG121
 replace hf2:=hf2.mono hG121
 obtain ⟨AU,cU,rfl,_⟩:=id hUi
 refine Wp 9 [0,0] hs rfl<|O_s (Sc (fuse_ok (f:=g) hf2 hgo.z hgo.o hT hgC hg12) hs rfl fun v8 G' H' _ hR hG126 hs=>?_)
 obtain ⟨rfl,vW,u2,rfl,hU2,hUi2,_⟩:=hR
 replace hs:=hs.n rfl
 replace hT:=hT.mono hG126
 replace hf:=hf.mono hG126
 replace hf2:=hf2.mono hG126
 replace hUi:=hUi.mono hG126
 obtain rfl:u2=u:=used_eq hU2 hU (fun z=>by rw [hgr])
 obtain ⟨AW,cW,rfl,_⟩:=id hUi2
 refine Wp 7 [0] hs rfl<|T_drawS [0,1,2,3,4,5,6,7,8,9,10,12] hs kR ?_
 replace hs:=hs.drew
 refine Xr [0,1,2,3,4] [0,1,1] hs rfl<|Xt 5 hs rfl (Y_idxS hf.n (n) underlying34 sizeOf61 rfl rfl rfl oM fun p135 c135 hp135 hc135 hR135=>?_)
 rw [← hx] at hR135
 obtain ⟨u135,rfl,hv135⟩:=hR135
 obtain ⟨A135,c135,rfl,_⟩:=id hv135
 refine Xt 6 hs rfl (Y_fieldAddrP O61_1.p rfl<|Xt 7 hs rfl (Yg rfl (hp135 1 (Vi (rv:Int)) (by rw [← hrv];rfl))<|A_two 8 12 rfl rfl kR rfl rfl ?_ ?_))
 ·
  have hle:=hs.le
  refine S_call (H1:=[]) hs rfl func25 rfl kR (fset_ok (f:=g) (n:=n) (v:=rv) hf2 hgo.z hgo.o hT hgo.s hgC oM (by rw [hgn];exact hrvl)) fun v9 G' H' _ hR hG138 hs=>?_
  obtain ⟨rfl,w138,rfl,hF3⟩:=hR
  replace hs:=hs.n rfl
  replace hf:=hf.mono hG138
  replace hUi:=hUi.mono hG138
  replace hUi2:=hUi2.mono hG138
  rw [hback] at hF3
  obtain ⟨Ap3,An3,Ae3,Ar3,cp3,cn3,ce3,cr3,rfl,hf3⟩:=hF3
  refine A_moreS hs hle hG138 (List.Sublist.refl _)<|Xr [9] [] hs rfl<|A_pure 11 rfl kR rfl (Y_extract rfl rfl<|Xr [10] [] hs rfl ?_)
  have hle:=hs.le
  refine Xo 12 rfl (Sa hs zeroValue38 rfl fun b20 _ hs=>A_moreS hs hle (Ghost.le.refl _) (List.sublist_cons_self _ _)<|Xn 13 rfl (Sg hs rfl (rfl) fun _ hs=>Xa 14 rfl (S_y hs rfl (Yq rfl<|Xe (Zk [7,8,16,17,18,19,20,21] rfl<|Wu 11 [] hs rfl<|O_yes 147 rfl rfl (Sc (rsin_ok hUi hUi2 oM) hs rfl fun v10 G' H' _ hR hG150 hs=>?_))))))
  obtain ⟨rfl,rfl⟩:=hR
  replace hs:=hs.n rfl
  replace hf:=hf.mono hG150
  replace hf3:=hf3.mono hG150
  rw [decide_eq_true rfl]
  refine Wp 8 [0,2] hs rfl<|O_yes 156 rfl rfl (Sc (rsfl_ok hf3 hf hfo.z hfo.s hfo.w hfo.pl hfo.rl) hs rfl fun v11 G' H' _ hR hG159 hs=>?_)
  obtain ⟨rfl,rfl⟩:=hR
  replace hs:=hs.n rfl
  refine Wp 6 [1,6] hs rfl<|T_ret<|Zz results5 rfl ?_
  exact ⟨_,[],hs.done,rfl,rfl⟩
 have hle:=hs.le
 refine S_alloc hs zeroValue38 (cs:=[_,_,_,_]) rfl fun b20 _ hs =>A_moreS hs hle (Ghost.le.refl _) (List.sublist_cons_self _ _) ?_
 have hle:=hs.le
 refine Xo 8 rfl (Sc (fset_ok (f:=g) (n:=n) (v:=rv) hf2 hgo.z hgo.o hT hgo.s hgC oM (by rw [hgn];exact hrvl)) hs rfl fun v12 G' H' _ hR hG138 hs=>?_)
 obtain ⟨rfl,w138,rfl,hF3⟩:=hR
 replace hs:=hs.n rfl
 replace hf:=hf.mono hG138
 replace hUi:=hUi.mono hG138
 replace hUi2:=hUi2.mono hG138
 rw [hback] at hF3
 obtain ⟨Ap3,An3,Ae3,Ar3,cp3,cn3,ce3,cr3,rfl,hf3⟩:=hF3
 refine A_moreS hs hle hG138 (List.Sublist.refl _)<|Xr [9] [] hs rfl<|A_pure 11 rfl kR rfl (Y_extract rfl rfl<|Xr [10] [] hs rfl<|Xn 13 rfl (Sg hs rfl (rfl) fun _ hs=>Xa 14 rfl (S_y hs rfl (Yq rfl<|Xe (Zk [7,8,16,17,18,19,20,21] rfl<|Wu 11 [] hs rfl<|O_yes 147 rfl rfl (Sc (rsin_ok hUi hUi2 oM) hs rfl fun v13 G' H' _ hR hG150 hs=>?_))))))
 obtain ⟨rfl,rfl⟩:=hR
 replace hs:=hs.n rfl
 replace hf:=hf.mono hG150
 replace hf3:=hf3.mono hG150
 rw [decide_eq_true rfl]
 refine Wp 8 [0,2] hs rfl<|O_yes 156 rfl rfl (Sc (rsfl_ok hf3 hf hfo.z hfo.s hfo.w hfo.pl hfo.rl) hs rfl fun v14 G' H' _ hR hG159 hs=>?_)
 obtain ⟨rfl,rfl⟩:=hR
 replace hs:=hs.n rfl
 refine Wp 6 [1,6] hs rfl<|T_ret<|Zz results5 rfl ?_
 exact ⟨_,[],hs.done,rfl,rfl⟩
end Go.Proofs.YtkeplgdofphnkaaGreatDoor
