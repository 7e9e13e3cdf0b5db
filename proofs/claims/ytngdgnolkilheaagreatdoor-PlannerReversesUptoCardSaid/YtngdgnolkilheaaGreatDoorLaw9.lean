/- The walk of the law PlannerReverses: the call returns true, whatever its arguments read, and changes nothing. -/
import Derived.Test.YtngdgnolkilheaaGreatDoorMI
set_option maxHeartbeats 4000000
set_option maxRecDepth 10000
set_option linter.unusedVariables false
set_option linter.unusedSimpArgs false
set_option linter.unusedSectionVars false
namespace Go.Proofs.YtngdgnolkilheaaGreatDoor
open Go Go.Ex Go.RowKit Go.Proofs.Tryz
open Pl
theorem lrev_ok {G:Ghost} {sz p0 p1 p2 p3 n0 n1 n2 n3 n4:UInt8} {ed r0 r1 r2:Nat} {Aw Aq:Option Addr} {cw cq:Nat} {nw:List UInt8} {sf:List Nat} (hT:Tab G) (hnw:Cv G (.slice Aw nw.length cw) nw) (hsq:U16s G (.slice Aq sf.length cq) sf) (he:ed<4294967296) (h0:r0<65536) (h1:r1<65536) (h2:r2<65536) :
  Ai prog 9 [.agg #[.int .u8 (sz.toNat:Int),.int .u8 (p0.toNat:Int),.int .u8 (p1.toNat:Int),.int .u8 (p2.toNat:Int),.int .u8 (p3.toNat:Int),.int .u8 (n0.toNat:Int),.int .u8 (n1.toNat:Int),.int .u8 (n2.toNat:Int),.int .u8 (n3.toNat:Int),.int .u8 (n4.toNat:Int),.int .u32 (ed:Int),.int .u16 (r0:Int),.int .u16 (r1:Int),.int .u16 (r2:Int),.slice Aw nw.length cw,.slice Aq sf.length cq]] G [] fun r _ H'=>H'=[]∧r=Vt:=by
 obtain ⟨f,hfe⟩:∃ z,z=Ga (bD sz p0 p1 p2 p3 n0 n1 n2 n3 n4 ed r0 r1 r2):=⟨_,rfl⟩
 obtain ⟨nv,hnv⟩:∃ z,z=tQ f nw:=⟨_,rfl⟩
 obtain ⟨s,hse⟩:∃ z,z=sfM sf f.progs.length:=⟨_,rfl⟩
 have hk:eB f nv:=by rw [hnv,hfe];exact nvM_ok (fW (sz:=sz) (p0:=p0) (p1:=p1) (p2:=p2) (p3:=p3) (n0:=n0) (n1:=n1) (n2:=n2) (n3:=n3) (n4:=n4) (ed:=ed) (r0:=r0) (r1:=r1) (r2:=r2) h0 h1 h2)
 have hso:SOk f s:=by rw [hse];exact sfM_ok
 obtain ⟨u,hU⟩:=used_ex f
 have hu12:=kJ hU hk.r
 have hu6:=hk.u
 refine Ai.of_T [(0,_)] func9 rfl ntmps9 sM rfl fun w0 hs=>?_
 have hnw0:=hnw
 have hsq0:=hsq
 have hT0:=hT
 refine Wt 2 [] hs rfl<|O_s (Sb hs rfl fun b1 _ hs=>Wp 4 [0] hs rfl<|O_s (Sc (san31_ok hT) hs rfl fun v1 G' H' _ hR hG19 hs=>?_))
 obtain ⟨rfl,rfl⟩:=hR
 replace hs:=hs.n rfl
 replace hnw:=hnw.mono hG19
 replace hsq:=hsq.mono hG19
 replace hT:=hT.mono hG19
 refine Wp 5 [0,0] hs rfl<|O_s (Sc (rmd1_ok hfe hnv hse hnw hsq he h0 h1 h2) hs rfl fun v2 G' H' _ hR hG22 hs=>?_)
 obtain ⟨rfl,Ap,An,Ae,Ar,cp,cn,ce,cr,Au,cu,vs,rfl,hf,hu,hS⟩:=hR
 replace hs:=hs.n rfl
 replace hnw:=hnw.mono hG22
 replace hsq:=hsq.mono hG22
 replace hT:=hT.mono hG22
 obtain ⟨As,cs,rfl⟩:=Be.slice hS
 refine Wp 3 [] hs rfl<|O_s (Sa hs zeroValue45 rfl fun b4 _ hs=>O_n (Sg hs rfl (rfl) fun _ hs=>Wp 5 [0,0] hs rfl<|O_s (Sc (backx_ok hf hu hk) hs rfl fun v3 G' H' _ hR hG26 hs=>?_)))
 obtain ⟨rfl,f2,Ni,An2,Au2,cn2,cu2,hfe2,hne2,rfl,hf2,hu2⟩:=hR
 replace hs:=hs.n rfl
 replace hnw:=hnw.mono hG26
 replace hsq:=hsq.mono hG26
 replace hT:=hT.mono hG26
 replace hf:=hf.mono hG26
 replace hu:=hu.mono hG26
 replace hS:=hS.mono hG26
 have hk2:eB f2 Ni:=by rw [hfe2,hne2];exact bk_ok hk
 have hso2:SOk f2 s:=by rw [hfe2];exact ⟨hso.n,hso.r⟩
 have hU2:Ik f2 u:=by rw [hfe2];exact hU
 refine O_s (Sa hs zeroValue45 rfl fun b6 _ hs=>O_n (Sg hs rfl (rfl) fun _ hs=>Wp 5 [0,1] hs rfl<|O_s (Sc (Tm hf hu hS hk hT hso hU) hs rfl fun v4 G' H' _ hR hG30 hs=>?_)))
 obtain ⟨rfl,vo,vc,o,rfl,hbs,hoN,hcI⟩:=hR
 replace hs:=hs.n rfl
 replace hnw:=hnw.mono hG30
 replace hsq:=hsq.mono hG30
 replace hT:=hT.mono hG30
 replace hf:=hf.mono hG30
 replace hu:=hu.mono hG30
 replace hS:=hS.mono hG30
 replace hf2:=hf2.mono hG30
 replace hu2:=hu2.mono hG30
 obtain ⟨la,lb,hla,hmin,hlt⟩:=qP hbs
 have hin:o∈Hh (Ee f nv).length [] (Ee f nv):=by rw [hla];simp
 obtain ⟨hoin,hol⟩:=zW rfl hin
 obtain ⟨C,hC⟩:∃ z,z=Ho f nv s u o:=⟨_,rfl⟩
 rw [← hC] at hcI
 have hCl:C.length≤12:=by have:=(cl_in (f:=f) (nv:=nv) (s:=s) (u:=u) (o:=o)).length_le;rw [← hC] at this;omega
 obtain ⟨Ao,co,rfl,_⟩:=id hoN
 obtain ⟨Ac,cc,rfl,_⟩:=id hcI
 refine Wp 3 [] hs rfl<|O_s (Sa hs zeroValue35 rfl fun b7 _ hs=>O_n (Sg hs rfl (rfl) fun _ hs=>Wp 6 [6,3,4,5,6,7,8,1] hs rfl<|O_s (Sc (Tm hf2 hu2 hS hk2 hT hso2 hU2) hs rfl fun v5 G' H' _ hR hG36 hs=>?_)))
 obtain ⟨rfl,vo2,vc2,o2,rfl,hbs2,hoN2,hcI2⟩:=hR
 replace hs:=hs.n rfl
 replace hnw:=hnw.mono hG36
 replace hsq:=hsq.mono hG36
 replace hT:=hT.mono hG36
 replace hf:=hf.mono hG36
 replace hu:=hu.mono hG36
 replace hS:=hS.mono hG36
 replace hf2:=hf2.mono hG36
 replace hu2:=hu2.mono hG36
 replace hoN:=hoN.mono hG36
 replace hcI:=hcI.mono hG36
 obtain ⟨la2,lb2,hla2,hmin2,hlt2⟩:=qP hbs2
 have hin2:o2∈Hh (Ee f2 Ni).length [] (Ee f2 Ni):=by rw [hla2];simp
 obtain ⟨C2,hC2⟩:∃ z,z=Ho f2 Ni s u o2:=⟨_,rfl⟩
 rw [← hC2] at hcI2
 obtain ⟨Ao2,co2,rfl,_⟩:=id hoN2
 obtain ⟨Ac2,cc2,rfl,_⟩:=id hcI2
 refine Wp 3 [] hs rfl<|O_s (Sa hs zeroValue35 rfl fun b9 _ hs=>O_n (Sg hs rfl (rfl) fun _ hs=>Wp 6 [0,1,1] hs rfl<|Zy hs (Ba zeroValue35 rfl kH rfl (cs:=[_,_]) rfl<|O_s (Sa hs zeroValue35 rfl fun b11 _ hs=>O_n (Sg hs rfl (rfl) fun _ hs=>Wp 7 [0,0,2] hs rfl<|Zy hs (Fc (c:=((o.length:Int) - 1)) rfl rfl oM oM<|Wp 2 [0] hs rfl ?_))))))
 have hs:=hs.nilRow 3 1
 have hs:=hs.f6.f6.f6.f6.f6.f6.f6
 obtain ⟨Gp0,hGp⟩:=hs.name
 subst hGp
 have hf_0:=hf
 have hu_0:=hu
 have hS_0:=hS
 have hoN_0:=hoN
 have hcI_0:=hcI
 have hf2_0:=hf2
 have hu2_0:=hu2
 have hoN2_0:=hoN2
 have hcI2_0:=hcI2
 refine Zl [3,4,5,6,7,8,9,10,11,12] (fun m E w=>∃ (k:Nat) (vw:Value) (G2:Ghost),k≤o.length∧Wf Gp0 G2∧m=o.length-k∧E=⟨[],[(3,Vt),(4,Vp b4),(5,.slice As s.length cs),(6,Vp b6),(7,Vp b7),(8,Vi 0),(9,Vp b9),(10,Vi 0),(11,Vp b11),(12,Vi ((o.length:Int)-1-(k:Int)))]⟩∧St ⟨w0,G,Bl []⟩ G2 [.row 3 1 vw k ((o.reverse.take k).map Cm),.blk b11 35 [vw,.slice Ac C.length cc],.blk b9 35 [.slice Ao2 o2.length co2,.slice Ac2 C2.length cc2],.blk b7 35 [.slice Ao o.length co,.slice Ac C.length cc],.blk b6 45 [.slice Ap f2.progs.length cp,.slice An2 f2.nodes.length cn2,.slice Ae f2.edges.length ce,.slice Ar f2.routes.length cr,.slice Au2 Ni.length cu2],.blk b4 45 [.slice Ap f.progs.length cp,.slice An f.nodes.length cn,.slice Ae f.edges.length ce,.slice Ar f.routes.length cr,.slice Au nv.length cu],.blk b1 32 [.int .u8 (sz.toNat:Int),.int .u8 (p0.toNat:Int),.int .u8 (p1.toNat:Int),.int .u8 (p2.toNat:Int),.int .u8 (p3.toNat:Int),.int .u8 (n0.toNat:Int),.int .u8 (n1.toNat:Int),.int .u8 (n2.toNat:Int),.int .u8 (n3.toNat:Int),.int .u8 (n4.toNat:Int),.int .u32 (ed:Int),.int .u16 (r0:Int),.int .u16 (r1:Int),.int .u16 (r2:Int),.slice Aw nw.length cw,.slice Aq sf.length cq]] w) rfl (⟨0,Vn,_,by omega,Wf.refl _,rfl,by simp,Bz hs sM⟩) fun m E w hI=>?_
 obtain ⟨k,vw,G2,hkl,hlg0,rfl,rfl,hs⟩:=hI
 have hf:=hf_0.mono hlg0
 have hu:=hu_0.mono hlg0
 have hS:=hS_0.mono hlg0
 have hoN:=hoN_0.mono hlg0
 have hcI:=hcI_0.mono hlg0
 have hf2:=hf2_0.mono hlg0
 have hu2:=hu2_0.mono hlg0
 have hoN2:=hoN2_0.mono hlg0
 have hcI2:=hcI2_0.mono hlg0
 have hnw:=hnw0.mono hs.le
 have hsq:=hsq0.mono hs.le
 have hT:=hT0.mono hs.le
 refine Wt 4 [] hs rfl<|Zy hs (Yc rfl (fun h47=>?_) fun h47=>?_)
 ·
  refine Wp 5 [0] hs rfl<|Bc [0,1,2,3,4,5,6,7] hs kR ?_
  replace hs:=hs.drew
  refine Xr [0,1,2,3,4] [0,1,0,3] hs rfl<|Xt 5 hs rfl (Eo hoN (o.length-1-k) underlying33 sizeOf3 rfl rfl oM oM fun p55 hp55 =>Xt 6 hs rfl (Yg rfl (hp55) ?_))
  have hle:=hs.le
  refine Xo 7 rfl (Se hs zeroValue3 rfl fun v6 _ hs _=>?_)
  obtain ⟨_,hG57,hl57,hs⟩:=hs.fixRow noM
  replace hlg0:=hlg0.mono hG57
  refine Am hs hle hG57 (lSr _)<|Xa 8 rfl (Bf hs underlying33 Lb rfl dC rfl rfl (hl57) (Fj rfl) oM Nj fun v7 _ hs =>Xa 9 rfl (S_y hs rfl (Yf 0 rfl<|Xn 10 rfl (Sd hs.f1 rfl (hs.f1.rowOne 1 rfl) fun _ hs=>Xe (Zk [3,4,5,6,7,8,9,10,11,12] rfl<|Wu 2 [] hs rfl<|Zy hs (Fc (c:=((o.length:Int) - 1 - ((k+1:Nat):Int))) rfl rfl oM oM<|Wp 1 [] hs rfl ?_))))))
  have hs:=hs.f6.f6.f6.f6.f6.f5.f6
  refine Zx [3,4,5,6,7,8,9,10,11,12] rfl ⟨k+1,v7,_,by omega,hlg0,rfl,rfl,Bz (hs.weak hs.le (gLr _) (lSa [_,_,_,_,_,_,_] _)) (by rw [rev_take (show k<o.length by omega),List.map_append];rfl)⟩
 refine Wp 3 [0] hs rfl ?_
 have hsN:=hs.fixRow noM
 clear hs
 obtain ⟨_,hG_hqr,hqr,hs⟩:=hsN
 replace hT:=hT.mono hG_hqr
 replace hf:=hf.mono hG_hqr
 replace hu:=hu.mono hG_hqr
 replace hS:=hS.mono hG_hqr
 replace hoN:=hoN.mono hG_hqr
 replace hcI:=hcI.mono hG_hqr
 replace hf2:=hf2.mono hG_hqr
 replace hu2:=hu2.mono hG_hqr
 obtain ⟨ob,hob⟩:∃ z,z=o.reverse:=⟨_,rfl⟩
 have hbl:ob.length=o.length:=by rw [hob,List.length_reverse]
 have hkk:k=o.length:=by omega
 rw [hkk,List.take_of_length_le sM,← hob,← hbl] at hqr
 have hrN:Cr _ vw ob:=hqr
 clear hqr
 obtain ⟨Ab,cb,rfl,_⟩:=id hrN
 have hop:o.Perm (Ee f nv):=qT hin
 have hfm:Gu f nv u o C:=by rw [hC];exact tR hU hin
 have hfm2:Gu f2 Ni u ob C:=by rw [hfe2,hne2,hob];exact bk_form hfm
 refine Wu 5 [3,0] hs rfl<|O_s (Sc (Wy hf2 hu2 hS hrN hcI hU2 oM oM hk2 hT hso2) hs rfl fun v8 G' H' _ hR hG64 hs=>?_)
 obtain ⟨rfl,n64,e64,rfl,k0,k310,k1,kn⟩:=hR
 replace hs:=hs.n rfl
 replace hT:=hT.mono hG64
 replace hf:=hf.mono hG64
 replace hu:=hu.mono hG64
 replace hoN:=hoN.mono hG64
 replace hcI:=hcI.mono hG64
 replace hf2:=hf2.mono hG64
 replace hu2:=hu2.mono hG64
 replace hrN:=hrN.mono hG64
 obtain rfl:e64=0:=k0.2 ⟨hfm2,fun x hx=>by rw [hfe2,hne2,hob,bk_cl hop] at hx;rw [hC];exact hx⟩
 obtain rfl:n64=((ob.length+1:Nat):Int):=kn rfl
 clear k0 k310 k1 kn
 refine Wp 10 [0,4,2] hs rfl<|O_s (Sc (qM hf hu hoN hcI hU oM oM hk hT (qN oM hu12)) hs rfl fun v9 G' H' _ hR hG70 hs=>?_)
 obtain ⟨rfl,vqa,pa,e70,rfl,hEa,_,hqa0,hqa⟩:=hR
 replace hs:=hs.n rfl
 replace hT:=hT.mono hG70
 replace hcI:=hcI.mono hG70
 replace hf2:=hf2.mono hG70
 replace hu2:=hu2.mono hG70
 replace hrN:=hrN.mono hG70
 obtain rfl:e70=0:=hqa0.2 hfm
 obtain ⟨hsa,hna,hma⟩:=hqa hfm
 clear hqa hqa0
 obtain ⟨Aqa,cqa,rfl⟩:=Be.slice hEa
 refine Wp 10 [11,3,6,7,8,9,10,11,13,14,15,16,3,0] hs rfl<|O_s (Sc (qM hf2 hu2 hrN hcI hU2 oM oM hk2 hT (qN oM hu12)) hs rfl fun v10 G' H' _ hR hG76 hs=>?_)
 obtain ⟨rfl,vqb,pb,e76,rfl,hEb,_,hqb0,hqb⟩:=hR
 replace hs:=hs.n rfl
 replace hEa:=hEa.mono hG76
 obtain rfl:e76=0:=hqb0.2 hfm2
 obtain ⟨hsb,hnb,hmb⟩:=hqb hfm2
 clear hqb hqb0
 obtain ⟨Aqb,cqb,rfl⟩:=Be.slice hEb
 refine Wp 6 [0] hs rfl ?_
 have hCC:C.length=C2.length:=by rw [hC,hC2,hfe2,hne2];refine bk_cnt hop hmin (qT (by rw [← hfe2,← hne2];exact hin2)) ?_;rw [← hfe2,← hne2];exact hmin2
 have hpc:=ned_cnt hna hma oM hu12
 have hpab:pa=pb:=tT hsa hsb hna hnb fun x=>by rw [hma,hmb,hfe2,hne2,hob,bk_ned hop]
 refine Wu 27 [1,2,1,1] hs rfl<|Zg hs rfl (Im rfl rfl rfl oM<|Wp 6 [0,2] hs rfl<|Zg hs rfl (Ya (s:=((o.length+1:Nat):Int)) rfl<|Zg hs rfl (Im rfl rfl rfl oM<|Wp 4 [] hs rfl<|Ch 114 rfl rfl (Sc (eD (a:=pa) (b:=pb) hEa hEb oM hpab) hs rfl fun v11 G' H' _ hR hG117 hs=>?_))))
 obtain ⟨rfl,rfl⟩:=hR
 replace hs:=hs.n rfl
 refine Wp 6 [1,2] hs rfl<|Ah<|Zz results9 rfl ?_
 exact ⟨_,[],hs.done,rfl,rfl⟩
end Go.Proofs.YtngdgnolkilheaaGreatDoor
