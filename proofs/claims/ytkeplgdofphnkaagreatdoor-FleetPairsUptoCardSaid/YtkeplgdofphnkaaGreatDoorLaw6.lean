/- The walk of the law FleetPairs: the call returns true, whatever its arguments read, and changes nothing. -/
import Derived.Test.YtkeplgdofphnkaaGreatDoorMI
set_option maxHeartbeats 4000000
set_option maxRecDepth 10000
set_option linter.unusedVariables false
set_option linter.unusedSimpArgs false
set_option linter.unusedSectionVars false
namespace Go.Proofs.YtkeplgdofphnkaaGreatDoor
open Go Go.Ex Go.RowKit Go.Proofs.Tryz
theorem eq2 {e:Int×Int} {a b:Int} (h:[e.1,e.2]=[a,b]):e=(a,b):=by
  injection h with h1 h2;injection h2 with h2 _;exact Prod.ext h1 h2
def anyL (f:FltM) (p:Int×Int) (l:List (Int×Int)):Bool:=l.any fun e=>decide (p=(runI f e.1,runI f e.2))
theorem anyL_step {f:FltM} {p:Int×Int} {l:List (Int×Int)} {r:List Int} {k:Nat} (h1:1≤k) (h:k<r.length) :
    anyL f p (l++(lnk r).take (k+1-1))=(anyL f p (l++(lnk r).take (k-1)) || decide (p=(runI f (r[k-1]'oM),runI f r[k]))):=by
  have hg:=lnk_get h1 h
  have hk:k-1<(lnk r).length:=by rw [lnk_len];omega
  have hx:(lnk r)[k-1]=(r[k-1]'oM,r[k]):=by
    rw [List.drop_eq_getElem_cons hk] at hg;injection hg
  have ht:(lnk r).take (k+1-1)=(lnk r).take (k-1)++[(r[k-1]'oM,r[k])]:=by
    rw [show k+1-1=k-1+1 by omega,take_succ' hk,hx]
  unfold anyL
  rw [ht,← List.append_assoc,List.any_append]
  congr 1
  show (_ || false)=_
  rw [Bool.or_false]
theorem anyL_iff {f:FltM} {p:Int×Int} {q:List (Int×Int)} (h:PairsP f q):anyL f p (rawL f)=decide (p∈q):=by
  rw [Bool.eq_iff_iff,decide_eq_true_iff,h.2 p]
  unfold anyL
  rw [List.any_eq_true]
  constructor
  · rintro ⟨e,he,h2⟩;exact ⟨e,he,of_decide_eq_true h2⟩
  · rintro ⟨e,he,h2⟩;exact ⟨e,he,decide_eq_true h2⟩
theorem ints_in {lr:List Nat} {r:List Int} {n:Nat} (hre:r=ints lr) (hrn:∀ y∈lr,y<n):∀ j (h:j<r.length),inB r[j] n=true:=by
  subst hre
  intro j h
  unfold ints at h ⊢
  rw [List.length_map] at h
  have:=hrn _ (List.getElem_mem h)
  rw [List.getElem_map]
  exact inB_iff.2 oM
theorem lprs_ok {G:Ghost} {sz p0 p1 p2 p3 n0 n1 n2 n3 n4:UInt8} {ed r0 r1 r2:Nat} {a b:UInt8} (hT:Tab G) (he:ed<4294967296) (h0:r0<65536) (h1:r1<65536) (h2:r2<65536) :
  FnOk prog 6 [.agg #[.int .u8 (sz.toNat:Int),.int .u8 (p0.toNat:Int),.int .u8 (p1.toNat:Int),.int .u8 (p2.toNat:Int),.int .u8 (p3.toNat:Int),.int .u8 (n0.toNat:Int),.int .u8 (n1.toNat:Int),.int .u8 (n2.toNat:Int),.int .u8 (n3.toNat:Int),.int .u8 (n4.toNat:Int),.int .u32 (ed:Int),.int .u16 (r0:Int),.int .u16 (r1:Int),.int .u16 (r2:Int)],.int .u8 (a.toNat:Int),.int .u8 (b.toNat:Int)] G [] fun r _ H'=>H'=[]∧r=Vt:=by
 obtain ⟨f,hfe⟩:∃ f,f=madeF (rawM sz p0 p1 p2 p3 n0 n1 n2 n3 n4 ed r0 r1 r2):=⟨_,rfl⟩
 have hok:=rawM_ok (sz:=sz) (p0:=p0) (p1:=p1) (p2:=p2) (p3:=p3) (n0:=n0) (n1:=n1) (n2:=n2) (n3:=n3) (n4:=n4) (ed:=ed) (r0:=r0) (r1:=r1) (r2:=r2) h0 h1 h2
 have hfo:FOk f:=by rw [hfe];exact made_fok hok
 have hC:checkE f=0:=by rw [hfe];exact made_ok hok
 have hnn:f.nodes.length=ncnt sz.toNat:=by rw [hfe,made_n hok];rfl
 have hpp:f.progs.length=pcnt sz.toNat:=by rw [hfe,made_p hok];rfl
 have hrr:f.routes.length=rcnt sz.toNat:=by rw [hfe,made_r hok];rfl
 have hn5:=ncnt_le sz.toNat
 have hp5:=pcnt_le sz.toNat
 have hr5:=rcnt_le sz.toNat
 have h12:(rawL f).length≤12:=by rw [hfe];exact made_raw hok
 have hez:=hfo.z.e
 refine FnOk.of_T [(0,_),(1,_),(2,_)] func6 rfl ntmps6 sM rfl fun w0 hs=>?_
 have hT0:=hT
 refine Wt 2 [] hs rfl<|O_s (Sb hs rfl fun b3 _ hs=>Wp 4 [0] hs rfl<|O_s (Sc (sani_ok hT) hs rfl fun v1 G' H' _ hR hG21 hs=>?_))
 obtain ⟨rfl,rfl⟩:=hR
 replace hs:=hs.n rfl
 replace hT:=hT.mono hG21
 refine Wp 5 [0,0] hs rfl<|O_s (Sc (rmad_ok (sz:=sz) (p0:=p0) (p1:=p1) (p2:=p2) (p3:=p3) (n0:=n0) (n1:=n1) (n2:=n2) (n3:=n3) (n4:=n4) (ed:=ed) (r0:=r0) (r1:=r1) (r2:=r2) he h0 h1 h2) hs rfl fun v2 G' H' _ hR hG23 hs=>?_)
 obtain ⟨rfl,hF⟩:=hR
 replace hs:=hs.n rfl
 replace hT:=hT.mono hG23
 rw [← hfe] at hF
 obtain ⟨Ap,An,Ae,Ar,cp,cn,ce,cr,rfl,hf⟩:=hF
 refine O_s (Sa hs zeroValue38 rfl fun b8 _ hs=>O_n (Sg hs rfl (rfl) fun _ hs=>Wp 4 [0,0] hs rfl<|O_s (Sc (fpai_ok hf hfo.z hfo.o hT hC h12) hs rfl fun v3 G' H' _ hR hG26 hs=>?_)))
 obtain ⟨rfl,vP,q,rfl,hPq,hQ,hql⟩:=hR
 replace hs:=hs.n rfl
 replace hT:=hT.mono hG26
 replace hf:=hf.mono hG26
 obtain ⟨AQ,cQ,rfl⟩:=LstR.slice hQ
 refine Wp 14 [0,0] hs rfl ?_
 obtain ⟨pa,hpa⟩:∃ z:Nat,z=a.toNat % f.progs.length:=⟨_,rfl⟩
 obtain ⟨pb,hpb⟩:∃ z:Nat,z=b.toNat % f.progs.length:=⟨_,rfl⟩
 refine Wu 1 [] hs rfl<|T_drawS [0,1,2,3,4,5,6,7,8,9,10,11,12,13] hs kR ?_
 replace hs:=hs.drew
 refine Xr [0] [] hs rfl<|Xt 1 hs rfl (Y_conv underlying5 underlying3 (c:=(a.toNat:Int)) rfl Z31<|Xr [2,3,4] [0,0] hs rfl<|Xt 5 hs rfl (Y_rem (c:=((pa:Nat):Int)) rfl rfl oM oM (by rw [hpa];exact (Int.natCast_emod _ _).symm)<|Xr [6] [] hs rfl<|Xt 7 hs rfl (Y_conv underlying5 underlying3 (c:=(b.toNat:Int)) rfl Z32<|Xr [8,9,10] [0,0] hs rfl<|Xt 11 hs rfl (Y_rem (c:=((pb:Nat):Int)) rfl rfl oM oM (by rw [hpb];exact (Int.natCast_emod _ _).symm)<|Xt 12 hs rfl (Y_buildA underlying31 sizeOf3 zeroValue31 rfl rfl (cs:=[_,_]) rfl ?_)))))
 have hle:=hs.le
 refine Xo 13 rfl (Sa hs zeroValue31 rfl fun b11 _ hs=>A_moreS hs hle (Ghost.le.refl _) (List.sublist_cons_self _ _)<|Xn 14 rfl (Sg hs rfl (rfl) fun _ hs=>Xe (Zk [7,8,9,11] rfl<|Wu 9 [0,0] hs rfl ?_)))
 have hs:=hs.f2.f2.f2
 refine Zl [7,8,9,11,12,13] (fun m E w=>∃ (i:Nat) (fb:Bool) (G2:Ghost),i≤q.length∧fb=decide (((pa:Int),(pb:Int))∈q.take i)∧Tab G2∧FltC G2 Ap An Ae Ar cp cn ce cr f∧Eds G2 (.slice AQ q.length cQ) q∧m=q.length-i∧E=⟨[],[(7,Vt),(8,Vp b8),(9,.slice AQ q.length cQ),(11,Vp b11),(12,.bool fb),(13,Vi (i:Int))]⟩∧St ⟨w0,G,feet []⟩ G2 [.blk b11 31 [Vi (pa:Int),Vi (pb:Int)],.blk b8 38 [.slice Ap f.progs.length cp,.slice An f.nodes.length cn,.slice Ae f.edges.length ce,.slice Ar f.routes.length cr],.blk b3 28 [.int .u8 (sz.toNat:Int),.int .u8 (p0.toNat:Int),.int .u8 (p1.toNat:Int),.int .u8 (p2.toNat:Int),.int .u8 (p3.toNat:Int),.int .u8 (n0.toNat:Int),.int .u8 (n1.toNat:Int),.int .u8 (n2.toNat:Int),.int .u8 (n3.toNat:Int),.int .u8 (n4.toNat:Int),.int .u32 (ed:Int),.int .u16 (r0:Int),.int .u16 (r1:Int),.int .u16 (r2:Int)]] w) rfl (⟨0,false,_,by omega,by simp,hT,hf,hQ,rfl,rfl,hs.weak hs.le (Ghost.le.refl _) (List.sublist_append_left [_,_,_] _)⟩) fun m E w hI=>?_
 obtain ⟨i,fb,G2,hi,hfb,hT,hf,hQ,rfl,rfl,hs⟩:=hI
 have hT:=hT0.mono hs.le
 refine Wt 6 [] hs rfl<|Zy hs (Yc rfl (fun h47=>?_) fun h47=>?_)
 ·
  refine Wp 3 [0] hs rfl ?_
  obtain ⟨e,hee⟩:∃ z,z=q[i]'oM:=⟨_,rfl⟩
  refine Wu 3 [] hs rfl<|T_drawS [0,1,2,3,4,5,6,7,8] hs kR ?_
  replace hs:=hs.drew
  cases fb
  ·
   refine Xr [0,1,2,3] [] hs rfl<|Xt 4 hs rfl (Y_idxS hQ (i) underlying35 sizeOf31 rfl rfl rfl oM fun p54 c54 hp54 hc54 hR54=>?_)
   rw [← hee] at hR54
   obtain rfl:c54=[Vi e.1,Vi e.2]:=hR54
   refine Xt 5 hs rfl (Y_ldAG (vs:=[Vi e.1,Vi e.2]) isAgg31 sizeOf31 rfl hp54 rfl<|Xr [6] [0] hs rfl<|Xt 7 hs rfl (Y_eqlNums (a:=[e.1,e.2]) (b:=[(pa:Int),(pb:Int)]) underlying31 sizeOf3 isAgg3 underlying3 kR rfl rfl rfl rfl (fun h57=>?_) (fun h57=>?_)))
   ·
    refine Xr [8] [] hs rfl<|Xa 9 rfl (S_y hs rfl (Yq rfl<|Xe (Zk [7,8,9,11,12,13] rfl ?_)))
    obtain ⟨d,hde⟩:∃ z,z=q[i-1]'oM:=⟨_,rfl⟩
    have hdl:0<i→(d.1<e.1∨(d.1=e.1∧d.2<e.2)):=fun h0=>ltP_iff.1 Z19
    refine Wu 1 [] hs rfl<|T_drawS [0,1,2,3,4,5,6,7,8,9,10,11,12,13,14,15,16,17,18,19,20,21,22,23,24,25,26,27,28,29,30,31,32,33,34,35,36,37,38,39,40,41,42,43,44] hs kR ?_
    replace hs:=hs.drew
    refine Xr [0] [] hs rfl<|Xt 1 hs rfl (Y_cmpS rfl rfl rfl (fun h60=>?_) (fun h60=>?_))
    ·
     dsimp only [cmpP] at h60
     refine Xr [2,3,4] [] hs rfl<|Xt 5 hs rfl (Y_sub (c:=((i-1:Nat):Int)) rfl rfl oM oM<|Xt 6 hs rfl (Y_idxS hQ (i-1) underlying35 sizeOf31 rfl rfl rfl oM fun p65 c65 hp65 hc65 hR65=>?_))
     rw [← hde] at hR65
     obtain rfl:c65=[Vi d.1,Vi d.2]:=hR65
     refine Xt 7 hs rfl (Y_idxArrP 0 underlying31 sizeOf3 rfl rfl rfl dC<|Xt 8 hs rfl (Yg rfl (hp65 0 (Vi d.1) rfl)<|Xr [9,10] [] hs rfl<|Xt 11 hs rfl (Y_idxS hQ (i) underlying35 sizeOf31 rfl rfl rfl oM fun p70 c70 hp70 hc70 hR70=>?_)))
     rw [← hee] at hR70
     obtain rfl:c70=[Vi e.1,Vi e.2]:=hR70
     refine Xt 12 hs rfl (Y_idxArrP 0 underlying31 sizeOf3 rfl rfl rfl dC<|Xt 13 hs rfl (Yg rfl (hp70 0 (Vi e.1) rfl)<|Xt 14 hs rfl (Y_cmpS rfl rfl rfl (fun h73=>?_) (fun h73=>?_))))
     ·
      dsimp only [cmpP] at h73
      refine Xr [15,16,17,18,19,20,21,22,23,24,25,26,27,28,29,30,31,32,33,34,35,36,37,38,39,40,41,42,43,44] [] hs rfl<|Xe (Zk [7,8,9,11,12,13,103] rfl<|Wu 4 [] hs rfl<|Zy hs (Ya (s:=((i+1:Nat):Int)) rfl<|Wp 1 [] hs rfl ?_))
      have hs:=hs.f2.f2.f2
      refine Zx [7,8,9,11,12,13] rfl ⟨i+1,_,_,by omega,(decide_eq_true (by rw [take_succ' oM,← hee];rw [eq2 h57];simp)).symm,hT,hf,hQ,rfl,rfl,hs.weak hs.le (Ghost.le.refl _) (List.sublist_append_left [_,_,_] _)⟩
     dsimp only [cmpP] at h73
     refine Xr [15,16,17] [] hs rfl<|Xt 18 hs rfl (Y_sub (c:=((i-1:Nat):Int)) rfl rfl oM oM<|Xt 19 hs rfl (Y_idxS hQ (i-1) underlying35 sizeOf31 rfl rfl rfl oM fun p78 c78 hp78 hc78 hR78=>?_))
     rw [← hde] at hR78
     obtain rfl:c78=[Vi d.1,Vi d.2]:=hR78
     refine Xt 20 hs rfl (Y_idxArrP 0 underlying31 sizeOf3 rfl rfl rfl dC<|Xt 21 hs rfl (Yg rfl (hp78 0 (Vi d.1) rfl)<|Xr [22,23] [] hs rfl<|Xt 24 hs rfl (Y_idxS hQ (i) underlying35 sizeOf31 rfl rfl rfl oM fun p83 c83 hp83 hc83 hR83=>?_)))
     rw [← hee] at hR83
     obtain rfl:c83=[Vi e.1,Vi e.2]:=hR83
     refine Xt 25 hs rfl (Y_idxArrP 0 underlying31 sizeOf3 rfl rfl rfl dC<|Xt 26 hs rfl (Yg rfl (hp83 0 (Vi e.1) rfl)<|Xt 27 hs rfl (Y_cmpT rfl rfl rfl Z52<|Xr [28,29,30] [] hs rfl<|Xt 31 hs rfl (Y_sub (c:=((i-1:Nat):Int)) rfl rfl oM oM<|Xt 32 hs rfl (Y_idxS hQ (i-1) underlying35 sizeOf31 rfl rfl rfl oM fun p91 c91 hp91 hc91 hR91=>?_)))))
     rw [← hde] at hR91
     obtain rfl:c91=[Vi d.1,Vi d.2]:=hR91
     refine Xt 33 hs rfl (Y_idxArrP 1 underlying31 sizeOf3 rfl rfl rfl dC<|Xt 34 hs rfl (Yg rfl (hp91 1 (Vi d.2) rfl)<|Xr [35,36] [] hs rfl<|Xt 37 hs rfl (Y_idxS hQ (i) underlying35 sizeOf31 rfl rfl rfl oM fun p96 c96 hp96 hc96 hR96=>?_)))
     rw [← hee] at hR96
     obtain rfl:c96=[Vi e.1,Vi e.2]:=hR96
     refine Xt 38 hs rfl (Y_idxArrP 1 underlying31 sizeOf3 rfl rfl rfl dC<|Xt 39 hs rfl (Yg rfl (hp96 1 (Vi e.2) rfl)<|Xt 40 hs rfl (Y_cmpT rfl rfl rfl Z52<|Xr [41,42,43,44] [] hs rfl<|Xe (Zk [7,8,9,11,12,13,103] rfl<|Wu 4 [] hs rfl<|Zy hs (Ya (s:=((i+1:Nat):Int)) rfl<|Wp 1 [] hs rfl ?_)))))
     have hs:=hs.f2.f2.f2
     refine Zx [7,8,9,11,12,13] rfl ⟨i+1,_,_,by omega,(decide_eq_true (by rw [take_succ' oM,← hee];rw [eq2 h57];simp)).symm,hT,hf,hQ,rfl,rfl,hs.weak hs.le (Ghost.le.refl _) (List.sublist_append_left [_,_,_] _)⟩
    dsimp only [cmpP] at h60
    refine Xr [2,3,4,5,6,7,8,9,10,11,12,13,14,15,16,17,18,19,20,21,22,23,24,25,26,27,28,29,30,31,32,33,34,35,36,37,38,39,40,41,42,43,44] [] hs rfl<|Xe (Zk [7,8,9,11,12,13,103] rfl<|Wu 4 [] hs rfl<|Zy hs (Ya (s:=((i+1:Nat):Int)) rfl<|Wp 1 [] hs rfl ?_))
    have hs:=hs.f2.f2.f2
    refine Zx [7,8,9,11,12,13] rfl ⟨i+1,_,_,by omega,(decide_eq_true (by rw [take_succ' oM,← hee];rw [eq2 h57];simp)).symm,hT,hf,hQ,rfl,rfl,hs.weak hs.le (Ghost.le.refl _) (List.sublist_append_left [_,_,_] _)⟩
   refine Xr [8] [] hs rfl<|Xa 9 rfl (S_y hs rfl (Yq rfl<|Xe (Zk [7,8,9,11,12,13] rfl ?_)))
   obtain ⟨d,hde⟩:∃ z,z=q[i-1]'oM:=⟨_,rfl⟩
   have hdl:0<i→(d.1<e.1∨(d.1=e.1∧d.2<e.2)):=fun h0=>ltP_iff.1 Z19
   refine Wu 1 [] hs rfl<|T_drawS [0,1,2,3,4,5,6,7,8,9,10,11,12,13,14,15,16,17,18,19,20,21,22,23,24,25,26,27,28,29,30,31,32,33,34,35,36,37,38,39,40,41,42,43,44] hs kR ?_
   replace hs:=hs.drew
   refine Xr [0] [] hs rfl<|Xt 1 hs rfl (Y_cmpS rfl rfl rfl (fun h60=>?_) (fun h60=>?_))
   ·
    dsimp only [cmpP] at h60
    refine Xr [2,3,4] [] hs rfl<|Xt 5 hs rfl (Y_sub (c:=((i-1:Nat):Int)) rfl rfl oM oM<|Xt 6 hs rfl (Y_idxS hQ (i-1) underlying35 sizeOf31 rfl rfl rfl oM fun p65 c65 hp65 hc65 hR65=>?_))
    rw [← hde] at hR65
    obtain rfl:c65=[Vi d.1,Vi d.2]:=hR65
    refine Xt 7 hs rfl (Y_idxArrP 0 underlying31 sizeOf3 rfl rfl rfl dC<|Xt 8 hs rfl (Yg rfl (hp65 0 (Vi d.1) rfl)<|Xr [9,10] [] hs rfl<|Xt 11 hs rfl (Y_idxS hQ (i) underlying35 sizeOf31 rfl rfl rfl oM fun p70 c70 hp70 hc70 hR70=>?_)))
    rw [← hee] at hR70
    obtain rfl:c70=[Vi e.1,Vi e.2]:=hR70
    refine Xt 12 hs rfl (Y_idxArrP 0 underlying31 sizeOf3 rfl rfl rfl dC<|Xt 13 hs rfl (Yg rfl (hp70 0 (Vi e.1) rfl)<|Xt 14 hs rfl (Y_cmpS rfl rfl rfl (fun h73=>?_) (fun h73=>?_))))
    ·
     dsimp only [cmpP] at h73
     refine Xr [15,16,17,18,19,20,21,22,23,24,25,26,27,28,29,30,31,32,33,34,35,36,37,38,39,40,41,42,43,44] [] hs rfl<|Xe (Zk [7,8,9,11,12,13,103] rfl<|Wu 4 [] hs rfl<|Zy hs (Ya (s:=((i+1:Nat):Int)) rfl<|Wp 1 [] hs rfl ?_))
     have hs:=hs.f2.f2.f2
     refine Zx [7,8,9,11,12,13] rfl ⟨i+1,_,_,by omega,(decide_eq_false Z5).symm,hT,hf,hQ,rfl,rfl,hs.weak hs.le (Ghost.le.refl _) (List.sublist_append_left [_,_,_] _)⟩
    dsimp only [cmpP] at h73
    refine Xr [15,16,17] [] hs rfl<|Xt 18 hs rfl (Y_sub (c:=((i-1:Nat):Int)) rfl rfl oM oM<|Xt 19 hs rfl (Y_idxS hQ (i-1) underlying35 sizeOf31 rfl rfl rfl oM fun p78 c78 hp78 hc78 hR78=>?_))
    rw [← hde] at hR78
    obtain rfl:c78=[Vi d.1,Vi d.2]:=hR78
    refine Xt 20 hs rfl (Y_idxArrP 0 underlying31 sizeOf3 rfl rfl rfl dC<|Xt 21 hs rfl (Yg rfl (hp78 0 (Vi d.1) rfl)<|Xr [22,23] [] hs rfl<|Xt 24 hs rfl (Y_idxS hQ (i) underlying35 sizeOf31 rfl rfl rfl oM fun p83 c83 hp83 hc83 hR83=>?_)))
    rw [← hee] at hR83
    obtain rfl:c83=[Vi e.1,Vi e.2]:=hR83
    refine Xt 25 hs rfl (Y_idxArrP 0 underlying31 sizeOf3 rfl rfl rfl dC<|Xt 26 hs rfl (Yg rfl (hp83 0 (Vi e.1) rfl)<|Xt 27 hs rfl (Y_cmpT rfl rfl rfl Z52<|Xr [28,29,30] [] hs rfl<|Xt 31 hs rfl (Y_sub (c:=((i-1:Nat):Int)) rfl rfl oM oM<|Xt 32 hs rfl (Y_idxS hQ (i-1) underlying35 sizeOf31 rfl rfl rfl oM fun p91 c91 hp91 hc91 hR91=>?_)))))
    rw [← hde] at hR91
    obtain rfl:c91=[Vi d.1,Vi d.2]:=hR91
    refine Xt 33 hs rfl (Y_idxArrP 1 underlying31 sizeOf3 rfl rfl rfl dC<|Xt 34 hs rfl (Yg rfl (hp91 1 (Vi d.2) rfl)<|Xr [35,36] [] hs rfl<|Xt 37 hs rfl (Y_idxS hQ (i) underlying35 sizeOf31 rfl rfl rfl oM fun p96 c96 hp96 hc96 hR96=>?_)))
    rw [← hee] at hR96
    obtain rfl:c96=[Vi e.1,Vi e.2]:=hR96
    refine Xt 38 hs rfl (Y_idxArrP 1 underlying31 sizeOf3 rfl rfl rfl dC<|Xt 39 hs rfl (Yg rfl (hp96 1 (Vi e.2) rfl)<|Xt 40 hs rfl (Y_cmpT rfl rfl rfl Z52<|Xr [41,42,43,44] [] hs rfl<|Xe (Zk [7,8,9,11,12,13,103] rfl<|Wu 4 [] hs rfl<|Zy hs (Ya (s:=((i+1:Nat):Int)) rfl<|Wp 1 [] hs rfl ?_)))))
    have hs:=hs.f2.f2.f2
    refine Zx [7,8,9,11,12,13] rfl ⟨i+1,_,_,by omega,(decide_eq_false Z5).symm,hT,hf,hQ,rfl,rfl,hs.weak hs.le (Ghost.le.refl _) (List.sublist_append_left [_,_,_] _)⟩
   dsimp only [cmpP] at h60
   refine Xr [2,3,4,5,6,7,8,9,10,11,12,13,14,15,16,17,18,19,20,21,22,23,24,25,26,27,28,29,30,31,32,33,34,35,36,37,38,39,40,41,42,43,44] [] hs rfl<|Xe (Zk [7,8,9,11,12,13,103] rfl<|Wu 4 [] hs rfl<|Zy hs (Ya (s:=((i+1:Nat):Int)) rfl<|Wp 1 [] hs rfl ?_))
   have hs:=hs.f2.f2.f2
   refine Zx [7,8,9,11,12,13] rfl ⟨i+1,_,_,by omega,(decide_eq_false Z5).symm,hT,hf,hQ,rfl,rfl,hs.weak hs.le (Ghost.le.refl _) (List.sublist_append_left [_,_,_] _)⟩
  refine Xr [0,1,2,3,4,5,6,7,8] [] hs rfl<|Xa 9 rfl (S_y hs rfl (Yq rfl<|Xe (Zk [7,8,9,11,12,13] rfl ?_)))
  obtain ⟨d,hde⟩:∃ z,z=q[i-1]'oM:=⟨_,rfl⟩
  have hdl:0<i→(d.1<e.1∨(d.1=e.1∧d.2<e.2)):=fun h0=>ltP_iff.1 Z19
  refine Wu 1 [] hs rfl<|T_drawS [0,1,2,3,4,5,6,7,8,9,10,11,12,13,14,15,16,17,18,19,20,21,22,23,24,25,26,27,28,29,30,31,32,33,34,35,36,37,38,39,40,41,42,43,44] hs kR ?_
  replace hs:=hs.drew
  refine Xr [0] [] hs rfl<|Xt 1 hs rfl (Y_cmpS rfl rfl rfl (fun h60=>?_) (fun h60=>?_))
  ·
   dsimp only [cmpP] at h60
   refine Xr [2,3,4] [] hs rfl<|Xt 5 hs rfl (Y_sub (c:=((i-1:Nat):Int)) rfl rfl oM oM<|Xt 6 hs rfl (Y_idxS hQ (i-1) underlying35 sizeOf31 rfl rfl rfl oM fun p65 c65 hp65 hc65 hR65=>?_))
   rw [← hde] at hR65
   obtain rfl:c65=[Vi d.1,Vi d.2]:=hR65
   refine Xt 7 hs rfl (Y_idxArrP 0 underlying31 sizeOf3 rfl rfl rfl dC<|Xt 8 hs rfl (Yg rfl (hp65 0 (Vi d.1) rfl)<|Xr [9,10] [] hs rfl<|Xt 11 hs rfl (Y_idxS hQ (i) underlying35 sizeOf31 rfl rfl rfl oM fun p70 c70 hp70 hc70 hR70=>?_)))
   rw [← hee] at hR70
   obtain rfl:c70=[Vi e.1,Vi e.2]:=hR70
   refine Xt 12 hs rfl (Y_idxArrP 0 underlying31 sizeOf3 rfl rfl rfl dC<|Xt 13 hs rfl (Yg rfl (hp70 0 (Vi e.1) rfl)<|Xt 14 hs rfl (Y_cmpS rfl rfl rfl (fun h73=>?_) (fun h73=>?_))))
   ·
    dsimp only [cmpP] at h73
    refine Xr [15,16,17,18,19,20,21,22,23,24,25,26,27,28,29,30,31,32,33,34,35,36,37,38,39,40,41,42,43,44] [] hs rfl<|Xe (Zk [7,8,9,11,12,13,103] rfl<|Wu 4 [] hs rfl<|Zy hs (Ya (s:=((i+1:Nat):Int)) rfl<|Wp 1 [] hs rfl ?_))
    have hs:=hs.f2.f2.f2
    refine Zx [7,8,9,11,12,13] rfl ⟨i+1,_,_,by omega,(decide_eq_true Z16).symm,hT,hf,hQ,rfl,rfl,hs.weak hs.le (Ghost.le.refl _) (List.sublist_append_left [_,_,_] _)⟩
   dsimp only [cmpP] at h73
   refine Xr [15,16,17] [] hs rfl<|Xt 18 hs rfl (Y_sub (c:=((i-1:Nat):Int)) rfl rfl oM oM<|Xt 19 hs rfl (Y_idxS hQ (i-1) underlying35 sizeOf31 rfl rfl rfl oM fun p78 c78 hp78 hc78 hR78=>?_))
   rw [← hde] at hR78
   obtain rfl:c78=[Vi d.1,Vi d.2]:=hR78
   refine Xt 20 hs rfl (Y_idxArrP 0 underlying31 sizeOf3 rfl rfl rfl dC<|Xt 21 hs rfl (Yg rfl (hp78 0 (Vi d.1) rfl)<|Xr [22,23] [] hs rfl<|Xt 24 hs rfl (Y_idxS hQ (i) underlying35 sizeOf31 rfl rfl rfl oM fun p83 c83 hp83 hc83 hR83=>?_)))
   rw [← hee] at hR83
   obtain rfl:c83=[Vi e.1,Vi e.2]:=hR83
   refine Xt 25 hs rfl (Y_idxArrP 0 underlying31 sizeOf3 rfl rfl rfl dC<|Xt 26 hs rfl (Yg rfl (hp83 0 (Vi e.1) rfl)<|Xt 27 hs rfl (Y_cmpT rfl rfl rfl Z52<|Xr [28,29,30] [] hs rfl<|Xt 31 hs rfl (Y_sub (c:=((i-1:Nat):Int)) rfl rfl oM oM<|Xt 32 hs rfl (Y_idxS hQ (i-1) underlying35 sizeOf31 rfl rfl rfl oM fun p91 c91 hp91 hc91 hR91=>?_)))))
   rw [← hde] at hR91
   obtain rfl:c91=[Vi d.1,Vi d.2]:=hR91
   refine Xt 33 hs rfl (Y_idxArrP 1 underlying31 sizeOf3 rfl rfl rfl dC<|Xt 34 hs rfl (Yg rfl (hp91 1 (Vi d.2) rfl)<|Xr [35,36] [] hs rfl<|Xt 37 hs rfl (Y_idxS hQ (i) underlying35 sizeOf31 rfl rfl rfl oM fun p96 c96 hp96 hc96 hR96=>?_)))
   rw [← hee] at hR96
   obtain rfl:c96=[Vi e.1,Vi e.2]:=hR96
   refine Xt 38 hs rfl (Y_idxArrP 1 underlying31 sizeOf3 rfl rfl rfl dC<|Xt 39 hs rfl (Yg rfl (hp96 1 (Vi e.2) rfl)<|Xt 40 hs rfl (Y_cmpT rfl rfl rfl Z52<|Xr [41,42,43,44] [] hs rfl<|Xe (Zk [7,8,9,11,12,13,103] rfl<|Wu 4 [] hs rfl<|Zy hs (Ya (s:=((i+1:Nat):Int)) rfl<|Wp 1 [] hs rfl ?_)))))
   have hs:=hs.f2.f2.f2
   refine Zx [7,8,9,11,12,13] rfl ⟨i+1,_,_,by omega,(decide_eq_true Z16).symm,hT,hf,hQ,rfl,rfl,hs.weak hs.le (Ghost.le.refl _) (List.sublist_append_left [_,_,_] _)⟩
  dsimp only [cmpP] at h60
  refine Xr [2,3,4,5,6,7,8,9,10,11,12,13,14,15,16,17,18,19,20,21,22,23,24,25,26,27,28,29,30,31,32,33,34,35,36,37,38,39,40,41,42,43,44] [] hs rfl<|Xe (Zk [7,8,9,11,12,13,103] rfl<|Wu 4 [] hs rfl<|Zy hs (Ya (s:=((i+1:Nat):Int)) rfl<|Wp 1 [] hs rfl ?_))
  have hs:=hs.f2.f2.f2
  refine Zx [7,8,9,11,12,13] rfl ⟨i+1,_,_,by omega,(decide_eq_true Z16).symm,hT,hf,hQ,rfl,rfl,hs.weak hs.le (Ghost.le.refl _) (List.sublist_append_left [_,_,_] _)⟩
 refine Wp 3 [0] hs rfl ?_
 rw [List.take_of_length_le oM] at hfb
 refine Wu 9 [0,0] hs rfl ?_
 have hs:=hs.f2.f2.f2
 refine Zl [7,8,11,12,14,15] (fun m E w=>∃ (i:Nat) (th:Bool) (G2:Ghost),i≤f.routes.length∧th=anyL f ((pa:Int),(pb:Int)) ((f.routes.take i).flatMap lnk)∧Tab G2∧FltC G2 Ap An Ae Ar cp cn ce cr f∧m=f.routes.length-i∧E=⟨[],[(7,Vt),(8,Vp b8),(11,Vp b11),(12,.bool fb),(14,.bool th),(15,Vi (i:Int))]⟩∧St ⟨w0,G,feet []⟩ G2 [.blk b11 31 [Vi (pa:Int),Vi (pb:Int)],.blk b8 38 [.slice Ap f.progs.length cp,.slice An f.nodes.length cn,.slice Ae f.edges.length ce,.slice Ar f.routes.length cr],.blk b3 28 [.int .u8 (sz.toNat:Int),.int .u8 (p0.toNat:Int),.int .u8 (p1.toNat:Int),.int .u8 (p2.toNat:Int),.int .u8 (p3.toNat:Int),.int .u8 (n0.toNat:Int),.int .u8 (n1.toNat:Int),.int .u8 (n2.toNat:Int),.int .u8 (n3.toNat:Int),.int .u8 (n4.toNat:Int),.int .u32 (ed:Int),.int .u16 (r0:Int),.int .u16 (r1:Int),.int .u16 (r2:Int)]] w) rfl (⟨0,false,_,by omega,by simp [anyL],hT,hf,rfl,rfl,hs.weak hs.le (Ghost.le.refl _) (List.sublist_append_left [_,_,_] _)⟩) fun m E w hI=>?_
 obtain ⟨i,th,G2,hi,hth,hT,hf,rfl,rfl,hs⟩:=hI
 have hT:=hT0.mono hs.le
 refine Wt 7 [3,1] hs rfl<|Zy hs (Yc rfl (fun h108=>?_) fun h108=>?_)
 ·
  refine Wp 3 [0] hs rfl ?_
  obtain ⟨r,hr⟩:∃ z,z=f.routes[i]'oM:=⟨_,rfl⟩
  obtain ⟨lr,hre,hrb,hrn,hr2,hr5'⟩:=made_route (x:=(rawM sz p0 p1 p2 p3 n0 n1 n2 n3 n4 ed r0 r1 r2)) (r:=r) (by rw [← hfe,hr];exact List.getElem_mem _)
  have hnr:ncnt ((rawM sz p0 p1 p2 p3 n0 n1 n2 n3 n4 ed r0 r1 r2)).size=f.nodes.length:=by rw [hnn];rfl
  rw [hnr] at hrn hr5'
  have hrlen:r.length=lr.length:=by rw [hre];unfold ints;rw [List.length_map]
  have hin:=ints_in hre hrn
  refine Wu 6 [0] hs rfl ?_
  have hs:=hs.f2.f2.f2
  refine Zl [7,8,11,12,14,15,16] (fun m E w=>∃ (k:Nat) (tk:Bool) (G2:Ghost),1≤k∧k≤r.length∧tk=anyL f ((pa:Int),(pb:Int)) ((f.routes.take i).flatMap lnk++(lnk r).take (k-1))∧Tab G2∧FltC G2 Ap An Ae Ar cp cn ce cr f∧m=r.length-k∧E=⟨[],[(7,Vt),(8,Vp b8),(11,Vp b11),(12,.bool fb),(14,.bool tk),(15,Vi (i:Int)),(16,Vi (k:Int))]⟩∧St ⟨w0,G,feet []⟩ G2 [.blk b11 31 [Vi (pa:Int),Vi (pb:Int)],.blk b8 38 [.slice Ap f.progs.length cp,.slice An f.nodes.length cn,.slice Ae f.edges.length ce,.slice Ar f.routes.length cr],.blk b3 28 [.int .u8 (sz.toNat:Int),.int .u8 (p0.toNat:Int),.int .u8 (p1.toNat:Int),.int .u8 (p2.toNat:Int),.int .u8 (p3.toNat:Int),.int .u8 (n0.toNat:Int),.int .u8 (n1.toNat:Int),.int .u8 (n2.toNat:Int),.int .u8 (n3.toNat:Int),.int .u8 (n4.toNat:Int),.int .u32 (ed:Int),.int .u16 (r0:Int),.int .u16 (r1:Int),.int .u16 (r2:Int)]] w) rfl (⟨1,th,_,by omega,by omega,by rw [hth];simp,hT,hf,rfl,rfl,hs.weak hs.le (Ghost.le.refl _) (List.sublist_append_left [_,_,_] _)⟩) fun m E w hI=>?_
  obtain ⟨k,tk,G2,hk1,hk,htk,hT,hf,rfl,rfl,hs⟩:=hI
  have hT:=hT0.mono hs.le
  refine Wt 7 [3,1] hs rfl<|Zy hs (Y_idxS hf.r i underlying36 sizeOf45 rfl rfl rfl oM fun p115 c115 hp115 hc115 hR115=>?_)
  rw [← hr] at hR115
  obtain ⟨u115,rfl,hv115⟩:=hR115
  obtain ⟨A115,c115,rfl,_⟩:=id hv115
  refine Zy hs (Yg rfl (hp115 0 (.slice A115 r.length c115) rfl)<|Wp 1 [] hs rfl<|Zy hs (Yc rfl (fun h118=>?_) fun h118=>?_))
  ·
   refine Wp 6 [0] hs rfl<|T_drawS [0,1,2,3,4,5,6,7,8,9,10,11,12,13,14,15] hs kR ?_
   replace hs:=hs.drew
   refine Xr [0,1,2,3] [1,3,1] hs rfl<|Xt 4 hs rfl (Y_idxS hf.r i underlying36 sizeOf45 rfl rfl rfl oM fun p126 c126 hp126 hc126 hR126=>?_)
   rw [← hr] at hR126
   obtain ⟨u126,rfl,hv126⟩:=hR126
   obtain ⟨A126,c126,rfl,_⟩:=id hv126
   refine Xt 5 hs rfl (Yg rfl (hp126 0 (.slice A126 r.length c126) rfl)<|Xr [6] [] hs rfl<|Xt 7 hs rfl (Y_sub (c:=((k-1:Nat):Int)) rfl rfl oM oM<|Xt 8 hs rfl (Y_idxI hv126 (k-1) underlying45 sizeOf3 rfl rfl rfl oM fun p130 hp130 =>Xt 9 hs rfl (Yg rfl (hp130) ?_))))
   have hle:=hs.le
   refine Xo 10 rfl (Sc (fprg_ok (n:=r[k-1]'oM) hf hfo.z hfo.o hT hC) hs rfl fun v4 G' H' _ hR hG132 hs=>?_)
   obtain ⟨rfl,rfl⟩:=hR
   replace hs:=hs.n rfl
   replace hT:=hT.mono hG132
   replace hf:=hf.mono hG132
   rw [if_pos (hin (k-1) oM)]
   refine A_moreS hs hle hG132 (List.Sublist.refl _)<|Xr [11,12,13,14,15] [] hs rfl<|Xe (Zk [7,8,11,12,14,15,16,17,18] rfl<|Wu 1 [] hs rfl<|T_drawS [0,1,2,3,4,5,6,7,8,9,10,11,12,13,14] hs kR ?_)
   replace hs:=hs.drew
   refine Xr [0,1,2,3] [1,3,1] hs rfl<|Xt 4 hs rfl (Y_idxS hf.r i underlying36 sizeOf45 rfl rfl rfl oM fun p140 c140 hp140 hc140 hR140=>?_)
   rw [← hr] at hR140
   obtain ⟨u140,rfl,hv140⟩:=hR140
   obtain ⟨A140,c140,rfl,_⟩:=id hv140
   refine Xt 5 hs rfl (Yg rfl (hp140 0 (.slice A140 r.length c140) rfl)<|Xr [6] [] hs rfl<|Xt 7 hs rfl (Y_idxI hv140 k underlying45 sizeOf3 rfl rfl rfl oM fun p143 hp143 =>Xt 8 hs rfl (Yg rfl (hp143) ?_)))
   have hle:=hs.le
   refine Xo 9 rfl (Sc (fprg_ok (n:=r[k]'oM) hf hfo.z hfo.o hT hC) hs rfl fun v5 G' H' _ hR hG145 hs=>?_)
   obtain ⟨rfl,rfl⟩:=hR
   replace hs:=hs.n rfl
   replace hT:=hT.mono hG145
   replace hf:=hf.mono hG145
   rw [if_pos (hin (k) oM)]
   refine A_moreS hs hle hG145 (List.Sublist.refl _)<|Xr [10,11,12,13,14] [] hs rfl<|Xe (Zk [7,8,11,12,14,15,16,17,18,19,20] rfl ?_)
   refine Zr ?_
   cases tk
   ·
    refine Wp 12 [0] hs rfl<|Zg hs rfl (Y_buildA underlying31 sizeOf3 zeroValue31 rfl rfl (cs:=[_,_]) rfl<|Zg hs rfl (Y_eqlNums (a:=[(pa:Int),(pb:Int)]) (b:=[(runI f (r[k-1]'oM)),(runI f (r[k]'oM))]) underlying31 sizeOf3 isAgg3 underlying3 kR rfl rfl rfl rfl (fun h161=>?_) (fun h161=>?_)))
    ·
     refine Wp 6 [7,7,8,11,12,14,15,16] hs rfl<|Zy hs (Ya (s:=((k+1:Nat):Int)) rfl<|Wp 1 [] hs rfl ?_)
     have hs:=hs.f2.f2.f2
     refine Zx [7,8,11,12,14,15,16] rfl ⟨k+1,_,_,by omega,by omega,by rw [anyL_step hk1 oM,← htk];rw [decide_eq_true (eq2 (e:=((pa:Int),(pb:Int))) h161)];rfl,hT,hf,rfl,rfl,hs.weak hs.le (Ghost.le.refl _) (List.sublist_append_left [_,_,_] _)⟩
    refine Wp 6 [7,7,8,11,12,14,15,16] hs rfl<|Zy hs (Ya (s:=((k+1:Nat):Int)) rfl<|Wp 1 [] hs rfl ?_)
    have hs:=hs.f2.f2.f2
    refine Zx [7,8,11,12,14,15,16] rfl ⟨k+1,_,_,by omega,by omega,by rw [anyL_step hk1 oM,← htk];rw [decide_eq_false (fun h=>h161 (by injection h with h1 h2;rw [h1,h2]))];rfl,hT,hf,rfl,rfl,hs.weak hs.le (Ghost.le.refl _) (List.sublist_append_left [_,_,_] _)⟩
   refine Wp 5 [] hs rfl<|O_noU 152 rfl rfl<|O_noU 152 rfl rfl<|Wp 2 [] hs rfl<|O_noU 156 rfl rfl<|O_noU 156 rfl rfl<|O_noU 156 rfl rfl<|O_noU 156 rfl rfl<|O_noU 156 rfl rfl<|Wp 6 [0] hs rfl<|Zy hs (Ya (s:=((k+1:Nat):Int)) rfl<|Wp 1 [] hs rfl ?_)
   have hs:=hs.f2.f2.f2
   refine Zx [7,8,11,12,14,15,16] rfl ⟨k+1,_,_,by omega,by omega,by rw [anyL_step hk1 oM,← htk];rfl,hT,hf,rfl,rfl,hs.weak hs.le (Ghost.le.refl _) (List.sublist_append_left [_,_,_] _)⟩
  refine Wp 3 [0] hs rfl ?_
  obtain rfl:k=r.length:=by omega
  rw [List.take_of_length_le (l:=lnk r) (by rw [lnk_len];omega)] at htk
  refine Wu 2 [] hs rfl<|Zy hs (Ya (s:=((i+1:Nat):Int)) rfl<|Wp 1 [] hs rfl ?_)
  have hs:=hs.f2.f2.f2
  refine Zx [7,8,11,12,14,15] rfl ⟨i+1,_,_,by omega,by rw [htk,take_succ' oM,List.flatMap_append,← hr];simp,hT,hf,rfl,rfl,hs.weak hs.le (Ghost.le.refl _) (List.sublist_append_left [_,_,_] _)⟩
 refine Wp 3 [0] hs rfl ?_
 obtain rfl:th=fb:=by rw [hth,hfb,List.take_of_length_le oM];exact anyL_iff hPq
 refine Wu 4 [] hs rfl<|Zy hs (Y_boolEqS underlying4 rfl rfl (fun _=>?_) (fun h=>absurd rfl h))
 refine Wp 5 [0] hs rfl<|T_ret<|Zz results6 rfl ?_
 exact ⟨_,[],hs.done,rfl,rfl⟩
end Go.Proofs.YtkeplgdofphnkaaGreatDoor
