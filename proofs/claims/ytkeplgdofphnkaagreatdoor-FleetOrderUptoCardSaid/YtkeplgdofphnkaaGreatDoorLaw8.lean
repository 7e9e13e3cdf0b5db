/- The walk of the law FleetOrder: the call returns true, whatever its arguments read, and changes nothing. -/
import Derived.Test.YtkeplgdofphnkaaGreatDoorMI
set_option maxHeartbeats 4000000
set_option maxRecDepth 10000
set_option linter.unusedVariables false
set_option linter.unusedSimpArgs false
set_option linter.unusedSectionVars false
namespace Go.Proofs.YtkeplgdofphnkaaGreatDoor
open Go Go.Ex Go.RowKit Go.Proofs.Tryz
theorem lord_ok {G:Ghost} {sz p0 p1 p2 p3 n0 n1 n2 n3 n4:UInt8} {ed r0 r1 r2:Nat} {a b:UInt8} (hT:Tab G) (he:ed<4294967296) (h0:r0<65536) (h1:r1<65536) (h2:r2<65536) :
  FnOk prog 8 [.agg #[.int .u8 (sz.toNat:Int),.int .u8 (p0.toNat:Int),.int .u8 (p1.toNat:Int),.int .u8 (p2.toNat:Int),.int .u8 (p3.toNat:Int),.int .u8 (n0.toNat:Int),.int .u8 (n1.toNat:Int),.int .u8 (n2.toNat:Int),.int .u8 (n3.toNat:Int),.int .u8 (n4.toNat:Int),.int .u32 (ed:Int),.int .u16 (r0:Int),.int .u16 (r1:Int),.int .u16 (r2:Int)],.int .u8 (a.toNat:Int),.int .u8 (b.toNat:Int)] G [] fun r _ H'=>H'=[]∧r=Vt:=by
 obtain ⟨f,hfe⟩:∃ f,f=madeF (rawM sz p0 p1 p2 p3 n0 n1 n2 n3 n4 ed r0 r1 r2):=⟨_,rfl⟩
 have hok:=rawM_ok (sz:=sz) (p0:=p0) (p1:=p1) (p2:=p2) (p3:=p3) (n0:=n0) (n1:=n1) (n2:=n2) (n3:=n3) (n4:=n4) (ed:=ed) (r0:=r0) (r1:=r1) (r2:=r2) h0 h1 h2
 have hfo:FOk f:=by rw [hfe];exact made_fok hok
 have hC:checkE f=0:=by rw [hfe];exact made_ok hok
 have hnn:f.nodes.length=ncnt sz.toNat:=by rw [hfe,made_n hok];rfl
 have hpp:f.progs.length=pcnt sz.toNat:=by rw [hfe,made_p hok];rfl
 have hrr:f.routes.length=rcnt sz.toNat:=by rw [hfe,made_r hok];rfl
 have hn5:=ncnt_le sz.toNat
 have hp5:=pcnt_le sz.toNat
 have hr5:=rcnt_le sz.toNat
 have h12:(rawL f).length≤12:=by rw [hfe];exact made_raw hok
 have hez:=hfo.z.e
 refine FnOk.of_T [(0,_),(1,_),(2,_)] func8 rfl ntmps8 sM rfl fun w0 hs=>?_
 have hT0:=hT
 refine Wt 2 [] hs rfl<|O_s (Sb hs rfl fun b3 _ hs=>Wp 4 [0] hs rfl<|O_s (Sc (sani_ok hT) hs rfl fun v1 G' H' _ hR hG14 hs=>?_))
 obtain ⟨rfl,rfl⟩:=hR
 replace hs:=hs.n rfl
 replace hT:=hT.mono hG14
 refine Wp 5 [0,0] hs rfl<|O_s (Sc (rmad_ok (sz:=sz) (p0:=p0) (p1:=p1) (p2:=p2) (p3:=p3) (n0:=n0) (n1:=n1) (n2:=n2) (n3:=n3) (n4:=n4) (ed:=ed) (r0:=r0) (r1:=r1) (r2:=r2) he h0 h1 h2) hs rfl fun v2 G' H' _ hR hG16 hs=>?_)
 obtain ⟨rfl,hF⟩:=hR
 replace hs:=hs.n rfl
 replace hT:=hT.mono hG16
 rw [← hfe] at hF
 obtain ⟨Ap,An,Ae,Ar,cp,cn,ce,cr,rfl,hf⟩:=hF
 refine O_s (Sa hs zeroValue38 rfl fun b8 _ hs=>O_n (Sg hs rfl (rfl) fun _ hs=>Wp 1 [0] hs rfl ?_))
 have hla:(a.toNat % f.nodes.length)<f.nodes.length:=Nat.mod_lt _ oM
 have hlb:(b.toNat % f.nodes.length)<f.nodes.length:=Nat.mod_lt _ oM
 refine Wu 1 [] hs rfl<|T_drawS [0,1,2,3,4,5,6,7,8,9,10,11,12,13,14,15,16,17,18] hs kR ?_
 replace hs:=hs.drew
 refine Xr [0,1] [0] hs rfl<|Xt 2 hs rfl (Y_conv underlying5 underlying3 (c:=(a.toNat:Int)) rfl Z31<|Xr [3,4,5] [1,0] hs rfl<|Xt 6 hs rfl (Y_rem (c:=((a.toNat % f.nodes.length:Nat):Int)) rfl rfl oM oM (Int.natCast_emod _ _).symm<|Xr [7] [] hs rfl<|Xt 8 hs rfl (Y_conv underlying5 underlying3 (c:=(b.toNat:Int)) rfl Z32<|Xr [9,10,11] [1,0] hs rfl<|Xt 12 hs rfl (Y_rem (c:=((b.toNat % f.nodes.length:Nat):Int)) rfl rfl oM oM (Int.natCast_emod _ _).symm ?_))))
 have hle:=hs.le
 refine Xo 13 rfl (Sc (fpth_ok (a:=(a.toNat % f.nodes.length)) (b:=(b.toNat % f.nodes.length)) hf hfo.z hfo.o hT hC rfl oM hla hlb (paths_len oM hla)) hs rfl fun v3 G' H' _ hR hG31 hs=>?_)
 obtain ⟨rfl,vL,rfl,hL⟩:=hR
 replace hs:=hs.n rfl
 replace hT:=hT.mono hG31
 replace hf:=hf.mono hG31
 have hQ:Rts _ vL (pthQ f (a.toNat % f.nodes.length) (b.toNat % f.nodes.length)):=lnR hL
 obtain ⟨Q,hQe⟩:∃ Q,Q=pthQ f (a.toNat % f.nodes.length) (b.toNat % f.nodes.length):=⟨_,rfl⟩
 rw [← hQe] at hQ
 obtain ⟨AQ,cQ,rfl⟩:=LstR.slice hQ
 have hQl:Q.length≤100:=by rw [hQe];unfold pthQ;rw [List.length_map];exact paths_len oM hla
 refine A_moreS hs hle hG31 (List.Sublist.refl _)<|Xr [14,15,16,17,18] [] hs rfl<|Xe (Zk [7,9,10] rfl<|Wu 13 [0,0] hs rfl ?_)
 have hs:=hs.f1.f1
 refine Zl [7,9,11] (fun m E w=>∃ (i:Nat) (G2:Ghost),i≤Q.length∧Tab G2∧FltC G2 Ap An Ae Ar cp cn ce cr f∧Rts G2 (.slice AQ Q.length cQ) Q∧m=Q.length-i∧E=⟨[],[(7,Vt),(9,.slice AQ Q.length cQ),(11,Vi (i:Int))]⟩∧St ⟨w0,G,feet []⟩ G2 [.blk b8 38 [.slice Ap f.progs.length cp,.slice An f.nodes.length cn,.slice Ae f.edges.length ce,.slice Ar f.routes.length cr],.blk b3 28 [.int .u8 (sz.toNat:Int),.int .u8 (p0.toNat:Int),.int .u8 (p1.toNat:Int),.int .u8 (p2.toNat:Int),.int .u8 (p3.toNat:Int),.int .u8 (n0.toNat:Int),.int .u8 (n1.toNat:Int),.int .u8 (n2.toNat:Int),.int .u8 (n3.toNat:Int),.int .u8 (n4.toNat:Int),.int .u32 (ed:Int),.int .u16 (r0:Int),.int .u16 (r1:Int),.int .u16 (r2:Int)]] w) rfl (⟨0,_,by omega,hT,hf,hQ,rfl,rfl,hs.weak hs.le (Ghost.le.refl _) (List.sublist_append_left [_,_] _)⟩) fun m E w hI=>?_
 obtain ⟨i,G2,hi,hT,hf,hQ,rfl,rfl,hs⟩:=hI
 have hT:=hT0.mono hs.le
 refine Wt 6 [] hs rfl<|Zy hs (Yc rfl (fun h39=>?_) fun h39=>?_)
 ·
  refine Wp 3 [0] hs rfl ?_
  obtain ⟨q,hq⟩:∃ z,z=Q[i]'oM:=⟨_,rfl⟩
  have hqa:=pthQ_at (f:=f) oM hla (hQe▸hq▸List.getElem_mem (show i<Q.length by omega):q∈pthQ f (a.toNat % f.nodes.length) (b.toNat % f.nodes.length))
  refine Wu 7 [0] hs rfl ?_
  have hs:=hs.f1.f1
  refine Zl [7,9,11,12] (fun m E w=>∃ (k:Nat) (G2:Ghost),k≤q.length∧Tab G2∧FltC G2 Ap An Ae Ar cp cn ce cr f∧Rts G2 (.slice AQ Q.length cQ) Q∧m=q.length-k∧E=⟨[],[(7,Vt),(9,.slice AQ Q.length cQ),(11,Vi (i:Int)),(12,Vi (k:Int))]⟩∧St ⟨w0,G,feet []⟩ G2 [.blk b8 38 [.slice Ap f.progs.length cp,.slice An f.nodes.length cn,.slice Ae f.edges.length ce,.slice Ar f.routes.length cr],.blk b3 28 [.int .u8 (sz.toNat:Int),.int .u8 (p0.toNat:Int),.int .u8 (p1.toNat:Int),.int .u8 (p2.toNat:Int),.int .u8 (p3.toNat:Int),.int .u8 (n0.toNat:Int),.int .u8 (n1.toNat:Int),.int .u8 (n2.toNat:Int),.int .u8 (n3.toNat:Int),.int .u8 (n4.toNat:Int),.int .u32 (ed:Int),.int .u16 (r0:Int),.int .u16 (r1:Int),.int .u16 (r2:Int)]] w) rfl (⟨0,_,by omega,hT,hf,hQ,rfl,rfl,hs.weak hs.le (Ghost.le.refl _) (List.sublist_append_left [_,_] _)⟩) fun m E w hI=>?_
  obtain ⟨k,G2,hk,hT,hf,hQ,rfl,rfl,hs⟩:=hI
  have hT:=hT0.mono hs.le
  refine Wt 6 [] hs rfl<|Zy hs (Y_idxS hQ (i) underlying36 sizeOf45 rfl rfl rfl oM fun p45 c45 hp45 hc45 hR45=>?_)
  rw [← hq] at hR45
  obtain ⟨u45,rfl,hv45⟩:=hR45
  obtain ⟨A45,c45,rfl,_⟩:=id hv45
  refine Zy hs (Yg rfl (hp45 0 (.slice A45 q.length c45) rfl)<|Wp 1 [] hs rfl<|Zy hs (Yc rfl (fun h48=>?_) fun h48=>?_))
  ·
   refine Wp 6 [0] hs rfl<|T_drawS [0,1,2,3,4,5,6,7,8,9,10,11,12,13] hs kR ?_
   replace hs:=hs.drew
   refine Xr [0,1] [] hs rfl<|Xt 2 hs rfl (Y_idxS hQ (i) underlying36 sizeOf45 rfl rfl rfl oM fun p53 c53 hp53 hc53 hR53=>?_)
   rw [← hq] at hR53
   obtain ⟨u53,rfl,hv53⟩:=hR53
   obtain ⟨A53,c53,rfl,_⟩:=id hv53
   refine Xt 3 hs rfl (Yg rfl (hp53 0 (.slice A53 q.length c53) rfl)<|Xr [4] [] hs rfl<|Xt 5 hs rfl (Y_sliceI hv53 0 k underlying45 sizeOf3 rfl rfl ⟨_,_,rfl,rfl⟩ oM oM fun s56 hs56=>?_))
   obtain ⟨A56,c56,rfl,_⟩:=id hs56
   refine Xr [6,7] [] hs rfl<|Xt 8 hs rfl (Y_idxS hQ (i) underlying36 sizeOf45 rfl rfl rfl oM fun p59 c59 hp59 hc59 hR59=>?_)
   rw [← hq] at hR59
   obtain ⟨u59,rfl,hv59⟩:=hR59
   obtain ⟨A59,c59,rfl,_⟩:=id hv59
   refine Xt 9 hs rfl (Yg rfl (hp59 0 (.slice A59 q.length c59) rfl)<|Xr [10] [] hs rfl<|Xt 11 hs rfl (Y_idxI hv59 k underlying45 sizeOf3 rfl rfl rfl oM fun p62 hp62 =>Xt 12 hs rfl (Yg rfl (hp62) ?_)))
   have hle:=hs.le
   refine Xo 13 rfl (Sc (rin_ok hs56 Z56) hs rfl fun v4 G' H' _ hR hG64 hs=>?_)
   obtain ⟨rfl,rfl⟩:=hR
   replace hs:=hs.n rfl
   replace hT:=hT.mono hG64
   replace hf:=hf.mono hG64
   replace hQ:=hQ.mono hG64
   rw [notin_pre hqa.2.2.2.2.2 oM]
   refine A_moreS hs hle hG64 (List.Sublist.refl _)<|Xe (Zk [7,9,11,12,64] rfl<|Wu 4 [] hs rfl<|Zy hs (Ya (s:=((k+1:Nat):Int)) rfl<|Wp 1 [] hs rfl ?_))
   have hs:=hs.f1.f1
   refine O_nil ⟨_,?_,[(7,_),(9,_),(11,_),(12,_)],⟨rfl,rfl,rfl,rfl,trivial⟩,⟨k+1,_,by omega,hT,hf,hQ,rfl,rfl,hs.weak hs.le (Ghost.le.refl _) (List.sublist_append_left [_,_] _)⟩⟩
   omega
  refine Wp 3 [0] hs rfl<|Wu 4 [] hs rfl<|Zy hs (Yc rfl (fun h66=>?_) fun h66=>?_)
  ·
   refine Wp 5 [0] hs rfl<|Zy hs (Ya (s:=((i+1:Nat):Int)) rfl<|Wp 1 [] hs rfl ?_)
   have hs:=hs.f1.f1
   refine O_nil ⟨_,?_,[(7,_),(9,_),(11,_)],⟨rfl,rfl,rfl,trivial⟩,⟨i+1,_,by omega,hT,hf,hQ,rfl,rfl,hs.weak hs.le (Ghost.le.refl _) (List.sublist_append_left [_,_] _)⟩⟩
   omega
  refine Wp 3 [0] hs rfl ?_
  obtain ⟨p,hpe⟩:∃ z,z=Q[i-1]'oM:=⟨_,rfl⟩
  have hpa:=pthQ_at (f:=f) oM hla (hQe▸hpe▸List.getElem_mem (show i-1<Q.length by omega):p∈pthQ f (a.toNat % f.nodes.length) (b.toNat % f.nodes.length))
  have hlx:lexI p q:=by rw [hpe,hq];exact (List.pairwise_iff_getElem.1 (hQe▸pthQ_lex (f:=f) oM hla:Q.Pairwise lexI)) (i-1) i oM oM oM
  refine Wu 4 [0] hs rfl ?_
  have hs:=hs.f1.f1
  refine Wu 1 [] hs rfl<|Zl [7,9,11,13] (fun m E w=>∃ (z:Nat) (G2:Ghost),z≤p.length∧z≤q.length∧(∀ j,j<z→p[j]?=q[j]?)∧Tab G2∧FltC G2 Ap An Ae Ar cp cn ce cr f∧Rts G2 (.slice AQ Q.length cQ) Q∧m=q.length-z∧E=⟨[],[(7,Vt),(9,.slice AQ Q.length cQ),(11,Vi (i:Int)),(13,Vi (z:Int))]⟩∧St ⟨w0,G,feet []⟩ G2 [.blk b8 38 [.slice Ap f.progs.length cp,.slice An f.nodes.length cn,.slice Ae f.edges.length ce,.slice Ar f.routes.length cr],.blk b3 28 [.int .u8 (sz.toNat:Int),.int .u8 (p0.toNat:Int),.int .u8 (p1.toNat:Int),.int .u8 (p2.toNat:Int),.int .u8 (p3.toNat:Int),.int .u8 (n0.toNat:Int),.int .u8 (n1.toNat:Int),.int .u8 (n2.toNat:Int),.int .u8 (n3.toNat:Int),.int .u8 (n4.toNat:Int),.int .u32 (ed:Int),.int .u16 (r0:Int),.int .u16 (r1:Int),.int .u16 (r2:Int)]] w) rfl (⟨0,_,by omega,by omega,fun j h=>absurd h (Nat.not_lt_zero _),hT,hf,hQ,rfl,rfl,hs.weak hs.le (Ghost.le.refl _) (List.sublist_append_left [_,_] _)⟩) fun m E w hI=>?_
  obtain ⟨z,G2,hzp,hzq,hzz,hT,hf,hQ,rfl,rfl,hs⟩:=hI
  have hT:=hT0.mono hs.le
  refine Wt 2 [] hs rfl<|T_drawS [0,1,2,3,4,5,6,7,8,9,10,11,12,13,14,15,16,17,18,19,20,21,22,23,24,25,26,27,28,29,30,31,32,33,34] hs kR ?_
  replace hs:=hs.drew
  refine Xr [0,1,2] [] hs rfl<|Xt 3 hs rfl (Y_idxS hQ (i) underlying36 sizeOf45 rfl rfl rfl oM fun p70 c70 hp70 hc70 hR70=>?_)
  rw [← hq] at hR70
  obtain ⟨u70,rfl,hv70⟩:=hR70
  obtain ⟨A70,c70,rfl,_⟩:=id hv70
  refine Xt 4 hs rfl (Yg rfl (hp70 0 (.slice A70 q.length c70) rfl)<|Xr [5] [] hs rfl<|Xt 6 hs rfl (Y_cmpS rfl rfl rfl (fun h73=>?_) (fun h73=>?_)))
  ·
   dsimp only [cmpP] at h73
   refine Xr [7,8,9,10] [] hs rfl<|Xt 11 hs rfl (Y_sub (c:=((i-1:Nat):Int)) rfl rfl oM oM<|Xt 12 hs rfl (Y_idxS hQ (i-1) underlying36 sizeOf45 rfl rfl rfl oM fun p79 c79 hp79 hc79 hR79=>?_))
   rw [← hpe] at hR79
   obtain ⟨u79,rfl,hv79⟩:=hR79
   obtain ⟨A79,c79,rfl,_⟩:=id hv79
   refine Xt 13 hs rfl (Yg rfl (hp79 0 (.slice A79 p.length c79) rfl)<|Xr [14] [] hs rfl<|Xt 15 hs rfl (Y_cmpS rfl rfl rfl (fun h82=>?_) (fun h82=>?_)))
   ·
    dsimp only [cmpP] at h82
    refine Xr [16,17,18,19] [] hs rfl<|Xt 20 hs rfl (Y_idxS hQ (i) underlying36 sizeOf45 rfl rfl rfl oM fun p87 c87 hp87 hc87 hR87=>?_)
    rw [← hq] at hR87
    obtain ⟨u87,rfl,hv87⟩:=hR87
    obtain ⟨A87,c87,rfl,_⟩:=id hv87
    refine Xt 21 hs rfl (Yg rfl (hp87 0 (.slice A87 q.length c87) rfl)<|Xr [22] [] hs rfl<|Xt 23 hs rfl (Y_idxI hv87 z underlying45 sizeOf3 rfl rfl rfl oM fun p90 hp90 =>Xt 24 hs rfl (Yg rfl (hp90)<|Xr [25,26] [] hs rfl<|Xt 27 hs rfl (Y_sub (c:=((i-1:Nat):Int)) rfl rfl oM oM<|Xt 28 hs rfl (Y_idxS hQ (i-1) underlying36 sizeOf45 rfl rfl rfl oM fun p95 c95 hp95 hc95 hR95=>?_)))))
    rw [← hpe] at hR95
    obtain ⟨u95,rfl,hv95⟩:=hR95
    obtain ⟨A95,c95,rfl,_⟩:=id hv95
    refine Xt 29 hs rfl (Yg rfl (hp95 0 (.slice A95 p.length c95) rfl)<|Xr [30] [] hs rfl<|Xt 31 hs rfl (Y_idxI hv95 z underlying45 sizeOf3 rfl rfl rfl oM fun p98 hp98 =>Xt 32 hs rfl (Yg rfl (hp98)<|Xt 33 hs rfl (Y_cmpS rfl rfl rfl (fun h100=>?_) (fun h100=>?_)))))
    ·
     dsimp only [cmpP] at h100
     refine Xr [34] [] hs rfl<|Xe (Zk [7,9,11,13,101] rfl<|Wu 5 [] hs rfl<|Zy hs (Ya (s:=((z+1:Nat):Int)) rfl<|Wp 1 [] hs rfl ?_))
     have hs:=hs.f1.f1
     refine O_nil ⟨_,?_,[(7,_),(9,_),(11,_),(13,_)],⟨rfl,rfl,rfl,rfl,trivial⟩,⟨z+1,_,by omega,by omega,fun j hj=>(Nat.lt_or_ge j z).elim (hzz j) (fun h'=>by obtain rfl:j=z:=oM;rw [List.getElem?_eq_getElem oM,List.getElem?_eq_getElem oM,h100]),hT,hf,hQ,rfl,rfl,hs.weak hs.le (Ghost.le.refl _) (List.sublist_append_left [_,_] _)⟩⟩
     omega
    dsimp only [cmpP] at h100
    refine Xr [34] [] hs rfl<|Xe (Zk [7,9,11,13,101] rfl<|Wu 2 [] hs rfl ?_)
    obtain ⟨hz1,hz2,hz3⟩:=lexI_at hlx hzp hzq hzz
    refine Wu 1 [] hs rfl<|T_drawS [0,1,2,3,4,5,6,7,8,9,10,11,12,13,14,15,16,17,18,19,20,21,22,23,24,25,26,27,28,29,30,31,32,33,34] hs kR ?_
    replace hs:=hs.drew
    refine Xr [0,1,2] [] hs rfl<|Xt 3 hs rfl (Y_idxS hQ (i) underlying36 sizeOf45 rfl rfl rfl oM fun p107 c107 hp107 hc107 hR107=>?_)
    rw [← hq] at hR107
    obtain ⟨u107,rfl,hv107⟩:=hR107
    obtain ⟨A107,c107,rfl,_⟩:=id hv107
    refine Xt 4 hs rfl (Yg rfl (hp107 0 (.slice A107 q.length c107) rfl)<|Xr [5] [] hs rfl<|Xt 6 hs rfl (Y_cmpF rfl rfl rfl oM<|Xr [7,8,9,10] [] hs rfl<|Xt 11 hs rfl (Y_sub (c:=((i-1:Nat):Int)) rfl rfl oM oM<|Xt 12 hs rfl (Y_idxS hQ (i-1) underlying36 sizeOf45 rfl rfl rfl oM fun p116 c116 hp116 hc116 hR116=>?_))))
    rw [← hpe] at hR116
    obtain ⟨u116,rfl,hv116⟩:=hR116
    obtain ⟨A116,c116,rfl,_⟩:=id hv116
    refine Xt 13 hs rfl (Yg rfl (hp116 0 (.slice A116 p.length c116) rfl)<|Xr [14] [] hs rfl<|Xt 15 hs rfl (Y_cmpT rfl rfl rfl oM<|Xr [16,17,18] [] hs rfl<|Xt 19 hs rfl (Y_sub (c:=((i-1:Nat):Int)) rfl rfl oM oM<|Xt 20 hs rfl (Y_idxS hQ (i-1) underlying36 sizeOf45 rfl rfl rfl oM fun p124 c124 hp124 hc124 hR124=>?_))))
    rw [← hpe] at hR124
    obtain ⟨u124,rfl,hv124⟩:=hR124
    obtain ⟨A124,c124,rfl,_⟩:=id hv124
    refine Xt 21 hs rfl (Yg rfl (hp124 0 (.slice A124 p.length c124) rfl)<|Xr [22] [] hs rfl<|Xt 23 hs rfl (Y_idxI hv124 z underlying45 sizeOf3 rfl rfl rfl oM fun p127 hp127 =>Xt 24 hs rfl (Yg rfl (hp127)<|Xr [25,26] [] hs rfl<|Xt 27 hs rfl (Y_idxS hQ (i) underlying36 sizeOf45 rfl rfl rfl oM fun p131 c131 hp131 hc131 hR131=>?_))))
    rw [← hq] at hR131
    obtain ⟨u131,rfl,hv131⟩:=hR131
    obtain ⟨A131,c131,rfl,_⟩:=id hv131
    refine Xt 28 hs rfl (Yg rfl (hp131 0 (.slice A131 q.length c131) rfl)<|Xr [29] [] hs rfl<|Xt 30 hs rfl (Y_idxI hv131 z underlying45 sizeOf3 rfl rfl rfl oM fun p134 hp134 =>Xt 31 hs rfl (Yg rfl (hp134)<|Xt 32 hs rfl (Y_cmpF rfl rfl rfl (by have:=hz3 oM oM;omega)<|Xr [33,34] [] hs rfl<|Xe (Zk [7,9,11,138] rfl<|Wu 4 [] hs rfl<|Zy hs (Ya (s:=((i+1:Nat):Int)) rfl<|Wp 1 [] hs rfl ?_))))))
    have hs:=hs.f1.f1
    refine O_nil ⟨_,?_,[(7,_),(9,_),(11,_)],⟨rfl,rfl,rfl,trivial⟩,⟨i+1,_,by omega,hT,hf,hQ,rfl,rfl,hs.weak hs.le (Ghost.le.refl _) (List.sublist_append_left [_,_] _)⟩⟩
    omega
   dsimp only [cmpP] at h82
   refine Xr [16,17,18,19,20,21,22,23,24,25,26,27,28,29,30,31,32,33,34] [] hs rfl<|Xe (Zk [7,9,11,13,101] rfl<|Wu 2 [] hs rfl ?_)
   obtain ⟨hz1,hz2,hz3⟩:=lexI_at hlx hzp hzq hzz
   refine Wu 1 [] hs rfl<|T_drawS [0,1,2,3,4,5,6,7,8,9,10,11,12,13,14,15,16,17,18,19,20,21,22,23,24,25,26,27,28,29,30,31,32,33,34] hs kR ?_
   replace hs:=hs.drew
   refine Xr [0,1,2] [] hs rfl<|Xt 3 hs rfl (Y_idxS hQ (i) underlying36 sizeOf45 rfl rfl rfl oM fun p107 c107 hp107 hc107 hR107=>?_)
   rw [← hq] at hR107
   obtain ⟨u107,rfl,hv107⟩:=hR107
   obtain ⟨A107,c107,rfl,_⟩:=id hv107
   refine Xt 4 hs rfl (Yg rfl (hp107 0 (.slice A107 q.length c107) rfl)<|Xr [5] [] hs rfl<|Xt 6 hs rfl (Y_cmpF rfl rfl rfl oM<|Xr [7,8,9,10] [] hs rfl<|Xt 11 hs rfl (Y_sub (c:=((i-1:Nat):Int)) rfl rfl oM oM<|Xt 12 hs rfl (Y_idxS hQ (i-1) underlying36 sizeOf45 rfl rfl rfl oM fun p116 c116 hp116 hc116 hR116=>?_))))
   rw [← hpe] at hR116
   obtain ⟨u116,rfl,hv116⟩:=hR116
   obtain ⟨A116,c116,rfl,_⟩:=id hv116
   refine Xt 13 hs rfl (Yg rfl (hp116 0 (.slice A116 p.length c116) rfl)<|Xr [14] [] hs rfl<|Xt 15 hs rfl (Y_cmpT rfl rfl rfl oM<|Xr [16,17,18] [] hs rfl<|Xt 19 hs rfl (Y_sub (c:=((i-1:Nat):Int)) rfl rfl oM oM<|Xt 20 hs rfl (Y_idxS hQ (i-1) underlying36 sizeOf45 rfl rfl rfl oM fun p124 c124 hp124 hc124 hR124=>?_))))
   rw [← hpe] at hR124
   obtain ⟨u124,rfl,hv124⟩:=hR124
   obtain ⟨A124,c124,rfl,_⟩:=id hv124
   refine Xt 21 hs rfl (Yg rfl (hp124 0 (.slice A124 p.length c124) rfl)<|Xr [22] [] hs rfl<|Xt 23 hs rfl (Y_idxI hv124 z underlying45 sizeOf3 rfl rfl rfl oM fun p127 hp127 =>Xt 24 hs rfl (Yg rfl (hp127)<|Xr [25,26] [] hs rfl<|Xt 27 hs rfl (Y_idxS hQ (i) underlying36 sizeOf45 rfl rfl rfl oM fun p131 c131 hp131 hc131 hR131=>?_))))
   rw [← hq] at hR131
   obtain ⟨u131,rfl,hv131⟩:=hR131
   obtain ⟨A131,c131,rfl,_⟩:=id hv131
   refine Xt 28 hs rfl (Yg rfl (hp131 0 (.slice A131 q.length c131) rfl)<|Xr [29] [] hs rfl<|Xt 30 hs rfl (Y_idxI hv131 z underlying45 sizeOf3 rfl rfl rfl oM fun p134 hp134 =>Xt 31 hs rfl (Yg rfl (hp134)<|Xt 32 hs rfl (Y_cmpF rfl rfl rfl (by have:=hz3 oM oM;omega)<|Xr [33,34] [] hs rfl<|Xe (Zk [7,9,11,138] rfl<|Wu 4 [] hs rfl<|Zy hs (Ya (s:=((i+1:Nat):Int)) rfl<|Wp 1 [] hs rfl ?_))))))
   have hs:=hs.f1.f1
   refine O_nil ⟨_,?_,[(7,_),(9,_),(11,_)],⟨rfl,rfl,rfl,trivial⟩,⟨i+1,_,by omega,hT,hf,hQ,rfl,rfl,hs.weak hs.le (Ghost.le.refl _) (List.sublist_append_left [_,_] _)⟩⟩
   omega
  dsimp only [cmpP] at h73
  refine Xr [7,8,9,10,11,12,13,14,15,16,17,18,19,20,21,22,23,24,25,26,27,28,29,30,31,32,33,34] [] hs rfl<|Xe (Zk [7,9,11,13,101] rfl<|Wu 2 [] hs rfl ?_)
  obtain ⟨hz1,hz2,hz3⟩:=lexI_at hlx hzp hzq hzz
  refine Wu 1 [] hs rfl<|T_drawS [0,1,2,3,4,5,6,7,8,9,10,11,12,13,14,15,16,17,18,19,20,21,22,23,24,25,26,27,28,29,30,31,32,33,34] hs kR ?_
  replace hs:=hs.drew
  refine Xr [0,1,2] [] hs rfl<|Xt 3 hs rfl (Y_idxS hQ (i) underlying36 sizeOf45 rfl rfl rfl oM fun p107 c107 hp107 hc107 hR107=>?_)
  rw [← hq] at hR107
  obtain ⟨u107,rfl,hv107⟩:=hR107
  obtain ⟨A107,c107,rfl,_⟩:=id hv107
  refine Xt 4 hs rfl (Yg rfl (hp107 0 (.slice A107 q.length c107) rfl)<|Xr [5] [] hs rfl<|Xt 6 hs rfl (Y_cmpF rfl rfl rfl oM<|Xr [7,8,9,10] [] hs rfl<|Xt 11 hs rfl (Y_sub (c:=((i-1:Nat):Int)) rfl rfl oM oM<|Xt 12 hs rfl (Y_idxS hQ (i-1) underlying36 sizeOf45 rfl rfl rfl oM fun p116 c116 hp116 hc116 hR116=>?_))))
  rw [← hpe] at hR116
  obtain ⟨u116,rfl,hv116⟩:=hR116
  obtain ⟨A116,c116,rfl,_⟩:=id hv116
  refine Xt 13 hs rfl (Yg rfl (hp116 0 (.slice A116 p.length c116) rfl)<|Xr [14] [] hs rfl<|Xt 15 hs rfl (Y_cmpT rfl rfl rfl oM<|Xr [16,17,18] [] hs rfl<|Xt 19 hs rfl (Y_sub (c:=((i-1:Nat):Int)) rfl rfl oM oM<|Xt 20 hs rfl (Y_idxS hQ (i-1) underlying36 sizeOf45 rfl rfl rfl oM fun p124 c124 hp124 hc124 hR124=>?_))))
  rw [← hpe] at hR124
  obtain ⟨u124,rfl,hv124⟩:=hR124
  obtain ⟨A124,c124,rfl,_⟩:=id hv124
  refine Xt 21 hs rfl (Yg rfl (hp124 0 (.slice A124 p.length c124) rfl)<|Xr [22] [] hs rfl<|Xt 23 hs rfl (Y_idxI hv124 z underlying45 sizeOf3 rfl rfl rfl oM fun p127 hp127 =>Xt 24 hs rfl (Yg rfl (hp127)<|Xr [25,26] [] hs rfl<|Xt 27 hs rfl (Y_idxS hQ (i) underlying36 sizeOf45 rfl rfl rfl oM fun p131 c131 hp131 hc131 hR131=>?_))))
  rw [← hq] at hR131
  obtain ⟨u131,rfl,hv131⟩:=hR131
  obtain ⟨A131,c131,rfl,_⟩:=id hv131
  refine Xt 28 hs rfl (Yg rfl (hp131 0 (.slice A131 q.length c131) rfl)<|Xr [29] [] hs rfl<|Xt 30 hs rfl (Y_idxI hv131 z underlying45 sizeOf3 rfl rfl rfl oM fun p134 hp134 =>Xt 31 hs rfl (Yg rfl (hp134)<|Xt 32 hs rfl (Y_cmpF rfl rfl rfl (by have:=hz3 oM oM;omega)<|Xr [33,34] [] hs rfl<|Xe (Zk [7,9,11,138] rfl<|Wu 4 [] hs rfl<|Zy hs (Ya (s:=((i+1:Nat):Int)) rfl<|Wp 1 [] hs rfl ?_))))))
  have hs:=hs.f1.f1
  refine O_nil ⟨_,?_,[(7,_),(9,_),(11,_)],⟨rfl,rfl,rfl,trivial⟩,⟨i+1,_,by omega,hT,hf,hQ,rfl,rfl,hs.weak hs.le (Ghost.le.refl _) (List.sublist_append_left [_,_] _)⟩⟩
  omega
 refine Wp 3 [0] hs rfl<|Wu 5 [0] hs rfl<|T_ret<|Zz results8 rfl ?_
 exact ⟨_,[],hs.done,rfl,rfl⟩
end Go.Proofs.YtkeplgdofphnkaaGreatDoor
