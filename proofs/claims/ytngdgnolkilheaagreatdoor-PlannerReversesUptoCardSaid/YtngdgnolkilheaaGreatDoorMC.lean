/- Part 3 of the walk through the functions that the laws of package fleet call: each function's contract, without conditions but those that its statement names. -/
import Derived.Test.YtngdgnolkilheaaGreatDoorMB
set_option maxHeartbeats 4000000
set_option maxRecDepth 10000
set_option linter.unusedVariables false
set_option linter.unusedSimpArgs false
set_option linter.unusedSectionVars false
namespace Go.Proofs.YtngdgnolkilheaaGreatDoor
open Go Go.Ex Go.RowKit Go.Proofs.Tryz
theorem eW {G:Ghost} {v:Value} {d:My} (hd:Oh G v d) (hv:Hm d=true) :
    Ai prog 248 [v] G [] fun r _ H'=>H'=[]∧r=.bool true:=hv▸aval_ok hd
theorem Si (d:My):(Cf d).cell.length=256:=by rw [oW];exact Lr _ _
theorem star_ok {G:Ghost} {v:Value} {d D1 D2:My} {RN:List (List Nat)×List Bool} (hd:Oh G v d) (hv:Hm d=true) (hok0:(Cf d).ok) (hD:Eu (Cf d)=some D1) (hc1:D1.cls.length≤256) (hok1:(Cf D1).ok) (h64:(Cf D1).next.length≤64) (hT:Tab G)
  (hex:rR (Fq (Cf D1) (Cf D1)).bytes (dM (Cf D1)) (dN (Cf D1)) 4096 4097 0 [⟨1,0,1⟩] [] []=some (some RN)) (hokR:Tb.ok ⟨(Fq (Cf D1) (Cf D1)).cell,(Fq (Cf D1) (Cf D1)).bytes.length,RN.1,RN.2⟩) (hD2:Eu ⟨(Fq (Cf D1) (Cf D1)).cell,(Fq (Cf D1) (Cf D1)).bytes.length,RN.1,RN.2⟩=some D2) (hn2:D2.next.length≤64) :
  Ai prog 262 [v] G [] fun r G' H'=>H'=[]∧∃ vd,r=.tuple #[vd,Vi 0]∧Oh G' vd D2:=by
 obtain ⟨vc,vn,va,rfl,hC,hN,hA⟩:=hd
 obtain ⟨Ac,cc,rfl⟩:=Be.slice hC
 obtain ⟨An,cn,rfl⟩:=Be.slice hN
 obtain ⟨Aa,ca,rfl,_⟩:=id hA
 have hcd:=((Ip d).1 hv).2.2.2.2.1
 have hJo:=Qr (a:=Cf D1) (b:=Cf D1) 256
 rw [← dJ] at hJo
 have hX256:=Si D1
 obtain ⟨X0,hX0⟩:∃ X,X=Cf d:=⟨_,rfl⟩
 obtain ⟨X,hX⟩:∃ X,X=Cf D1:=⟨_,rfl⟩
 rw [← hX0] at hok0 hD
 rw [← hX] at hok1 h64 hex hokR hD2 hJo hX256
 obtain ⟨J,hJ⟩:∃ J,J=Fq X X:=⟨_,rfl⟩
 rw [← hJ] at hex hokR hD2 hJo
 have hJl:=hJo.cl
 have hJb:=hJo.le
 have hJ256:=hJo.bt
 have hXal:=hok1.2.2.1
 refine Ai.of_T [(0,_)] func262 rfl ntmps262 sM rfl fun w0 hs=>?_
 have hC0:=hC
 have hN0:=hN
 have hA0:=hA
 have hT0:=hT
 refine Wt 2 [] hs rfl<|O_s (Sb hs rfl fun b1 _ hs=>O_s (Sa hs zeroValue250 rfl fun b2 _ hs=>Wp 6 [0,1] hs rfl<|O_s (Sc (eW ⟨_,_,_,rfl,hC,hN,hA⟩ hv) hs rfl fun v1 G' H' _ hR hG11 hs=>?_)))
 obtain ⟨rfl,rfl⟩:=hR
 replace hs:=hs.n rfl
 replace hC:=hC.mono hG11
 replace hN:=hN.mono hG11
 replace hA:=hA.mono hG11
 replace hT:=hT.mono hG11
 refine Wp 7 [0,1] hs rfl<|O_s (Sc (Kl ⟨_,_,_,rfl,hC,hN,hA⟩ hcd hT) hs rfl fun v2 G' H' _ hR hG15 hs=>?_)
 obtain ⟨rfl,h15⟩:=hR
 replace hs:=hs.n rfl
 replace hT:=hT.mono hG15
 rw [← hX0] at h15
 obtain ⟨u15,w15,rfl,hc15,hn15,ha15⟩:=h15
 obtain ⟨N15,n15,rfl⟩:=Be.slice hn15
 obtain ⟨A15,a15,rfl,_⟩:=id ha15
 refine O_s (Sc (Lq ⟨_,_,rfl,hc15,hn15,ha15⟩ hok0 hD) hs rfl fun v3 G' H' _ hR hG16 hs=>?_)
 obtain ⟨rfl,hq⟩:=hR
 replace hs:=hs.n rfl
 replace hT:=hT.mono hG16
 obtain ⟨qc,qn,qa,rfl,hqC,hqN,hqA⟩:=hq
 obtain ⟨Cq,cq,rfl⟩:=Be.slice hqC
 obtain ⟨Nq,nq,rfl⟩:=Be.slice hqN
 obtain ⟨Aq,aq,rfl,_⟩:=id hqA
 refine O_s (Sc (Kl ⟨_,_,_,rfl,hqC,hqN,hqA⟩ hc1 hT) hs rfl fun v4 G' H' _ hR hG17 hs=>?_)
 obtain ⟨rfl,h17⟩:=hR
 replace hs:=hs.n rfl
 rw [← hX] at h17
 obtain ⟨u17,w17,rfl,hc17,hn17,ha17⟩:=h17
 obtain ⟨N17,n17,rfl⟩:=Be.slice hn17
 obtain ⟨A17,a17,rfl,_⟩:=id ha17
 refine O_s (Bd hs zeroValue300 (cs:=(Cg (List.replicate 256 0) 0 (Vn) (Vn))) rfl fun b4 _ hs =>O_n (Sw hs rfl Z4 Z4 (Gi rfl rfl) fun _ hs=>Wp 3 [0] hs rfl<|Zy hs (Yk 0 rfl (Bp hX256)<|Zy hs (Yk 0 rfl (Bp hX256)<|O_s (Sc (iW ⟨_,_,rfl,hX256,hn17,ha17⟩ ⟨_,_,rfl,hX256,hn17,ha17⟩) hs rfl fun v5 G' H' _ hR hG21 hs=>?_)))))
 obtain ⟨rfl,vj,rfl,hj⟩:=hR
 replace hs:=hs.n rfl
 replace hn17:=hn17.mono hG21
 replace ha17:=ha17.mono hG21
 rw [← hJ] at hj ⊢
 obtain ⟨Aj,cj,rfl,_⟩:=id hj
 refine Wp 3 [] hs rfl<|O_s (Bd hs zeroValue298 (cs:=(List.map Ji (List.replicate 256 0))) rfl fun b5 _ hs =>O_n (Sw hs rfl Z4 Z4 (aL) fun _ hs=>Wp 2 [4,2,4,5,6] hs rfl ?_))
 have hs:=hs.f1
 obtain ⟨_,hGbhB,hB,hs⟩:=hs.fixBlk (fun k _=>Ht k)
 replace hn17:=hn17.mono hGbhB
 replace ha17:=ha17.mono hGbhB
 replace hj:=hj.mono hGbhB
 replace hB:Br _ b4 _:=hB
 refine Wu 2 [] hs rfl<|Zy hs (Dn (vs:=[_]) rfl<|Wp 4 [0] hs rfl<|Zy hs (Yk 0 rfl ((List.length_map _).trans hJl)<|Wp 1 [] hs rfl<|Zy hs (Co underlying309 sizeOf125 zeroValue309 rfl rfl (cs:=[_]) rfl<|Zy hs (Ba zeroValue311 rfl iZ rfl (cs:=[_,_,_]) rfl<|Wp 1 [] hs rfl<|Zy hs (Dn (vs:=[_]) rfl<|O_s (Sc (Wi (start:=⟨1,0,1⟩) (nx:=dM X) (ac:=dN X) (ok:=fun _=>True) (most:=4096) (lb1:=[Vp b4]) (lb2:=[Vp b4]) hJl hj hJb dC dC trivial (fun _ _ _ _=>trivial) func287 rfl kR func288 rfl kR (fun G' s c _ hc hG=>wL ⟨_,_,hB.mono hG,hX256,hn17.mono hG,ha17.mono hG⟩ hok1 h64 (hJ256 c hc)) (fun G' s _ hG=>wK ⟨_,_,hB.mono hG,hX256,hn17.mono hG,ha17.mono hG⟩ oM) hex) hs rfl fun v6 G' H' _ hR hG32 hs=>?_))))))
 obtain ⟨rfl,vt,rfl,h32⟩:=hR
 replace hs:=hs.n rfl
 obtain ⟨u32,w32,rfl,hc32,hn32,ha32⟩:=h32
 obtain ⟨N32,n32,rfl⟩:=Be.slice hn32
 obtain ⟨A32,a32,rfl,_⟩:=id ha32
 refine Wp 3 [] hs rfl<|O_s (Bd hs zeroValue300 (cs:=(Cg (List.replicate 256 0) 0 (Vn) (Vn))) rfl fun b8 _ hs =>O_n (Sw hs rfl Z4 Z4 (Gi rfl rfl) fun _ hs=>Wp 12 [0,0] hs rfl<|Zy hs (Yk 0 rfl (Bp hJl)<|O_s (Sc (Ml (t:=(⟨J.cell,J.bytes.length,RN.1,RN.2⟩:Tb)) ⟨_,_,rfl,hJl,hn32,ha32⟩ hokR hD2 hn2) hs rfl fun v7 G' H' _ hR hG39 hs=>?_))))
 obtain ⟨rfl,vd,rfl,hz⟩:=hR
 replace hs:=hs.n rfl
 obtain ⟨zc,zn,za,rfl,hzC,hzN,hzA⟩:=hz
 obtain ⟨Cz,cz,rfl⟩:=Be.slice hzC
 obtain ⟨Nz,nz,rfl⟩:=Be.slice hzN
 obtain ⟨Az,az,rfl,_⟩:=id hzA
 refine Wp 2 [] hs rfl<|O_n (Sg hs.f2 rfl (rfl) fun _ hs=>Wp 2 [2,2,3] hs rfl<|Ah ?_)
 have hr:=hs
 refine Bi (vs:=[_,_]) results262 rfl ⟨Bk 0 hr isAgg250 sizeOf250 rfl (cs:=[_,_,_]) rfl rfl,rfl,trivial⟩ ?_
 try dsimp only [tup]
 exact ⟨_,[],hs.done,rfl,_,rfl,_,_,_,rfl,hzC,hzN,hzA⟩
theorem lX {G:Ghost} {bx:Nat} {t:Tb} {a:Cs} (ht:eV G bx t) (hp:a.p<t.acc.length) :
  Ai prog 251 [.agg #[Vi (a.p:Int),Vi (a.q:Int),.int .u64 (a.s:Int)],Vp bx] G [] fun r _ H'=>H'=[]∧r=stK (Jg t a):=by
 obtain ⟨vn,va,hB,hcl,hN,hA⟩:=ht
 obtain ⟨An,cn,rfl⟩:=Be.slice hN
 obtain ⟨Aa,ca,rfl,_⟩:=id hA
 refine Ai.of_T [(0,_),(1,_)] func251 rfl ntmps251 sM rfl fun w0 hs=>?_
 have hB0:=hB
 have hN0:=hN
 have hA0:=hA
 refine Wt 2 [] hs rfl<|O_s (Sb hs rfl fun b2 _ hs=>O_s (Sa hs zeroValue311 rfl fun b3 _ hs=>Wp 5 [0,258] hs rfl<|Zy hs (Yg rfl (hB 258 _ (Uh hcl))<|Wp 2 [0,1] hs rfl<|Zy hs (Jc a.p underlying64 sizeOf4 hA rfl rfl rfl (Ix oM) fun p8 hp8 =>Zy hs (Yg rfl (hp8)<|Wp 1 [0] hs rfl<|Fv rfl (fun h9=>?_) (fun h9=>?_))))))
 ·
  refine Wu 2 [2] hs rfl<|Zy hs (Du 0 underlying309 sizeOf125 rfl rfl rfl dC (m:=2) rfl<|Wp 1 [1] hs rfl<|Zy hs (Tw (b:=1) rfl rfl<|Wp 1 [2] hs rfl<|Zy hs (Du 0 underlying309 sizeOf125 rfl rfl rfl dC (m:=2) rfl<|O_n (Sd hs.f1 rfl rfl fun _ hs=>Wp 4 [0,0] hs rfl<|O_n (Sg hs.f1 rfl (rfl) fun _ hs=>Wp 1 [0] hs rfl<|Ah<|Zz results251 (Rb 0 hs rfl rF) ?_)))))
  exact ⟨_,[],hs.done,rfl,by unfold Jg;rw [Bn hp,if_pos h9];rfl⟩
 refine Wu 4 [1] hs rfl<|O_n (Sg hs rfl (rfl) fun _ hs=>Wp 1 [0] hs rfl<|Ah<|Zz results251 (Rb 0 hs rfl rF) ?_)
 exact ⟨_,[],hs.done,rfl,by unfold Jg;rw [Bn hp,if_neg (by rw [h9];simp)];rfl⟩
def Sj (x y:Tb) (a:Cs) (c:Nat):Cs:=Jg x ⟨x.to a.p (x.cell.getD c 0),0,Zp y a.s c⟩
theorem lY {G:Ghost} {be bx by' c:Nat} {t y:Tb} {a:Cs} (he:Br G be [.func (.func 251) #[] #[Vp bx]]) (htx:eV G bx t) (hty:eV G by' y) (hok:t.ok) (hoky:y.ok) (h64:y.next.length≤64) (hc:c<256) (hp:a.p<t.next.length) :
  Ai prog 252 [.agg #[Vi (a.p:Int),Vi (a.q:Int),.int .u64 (a.s:Int)],Vi (c:Int),Vp be,Vp bx,.pointer (some ⟨by',0,none⟩)] G [] fun r _ H'=>H'=[]∧r=stK (Sj t y a c):=by
 obtain ⟨vn,va,hB,hcl,hN,hA⟩:=htx
 obtain ⟨An,cn,rfl⟩:=Be.slice hN
 obtain ⟨Aa,ca,rfl,_⟩:=id hA
 obtain ⟨wn,wa,hB2,hcy,hN2,hA2⟩:=hty
 obtain ⟨Ny,ny,rfl⟩:=Be.slice hN2
 obtain ⟨Ay,ay,rfl,_⟩:=id hA2
 have hal:=hok.2.2.1
 have hrows:=hok.2.2.2.2.1
 obtain ⟨cc,hce⟩:∃ z,z=t.cell.getD c 0:=⟨_,rfl⟩
 have hcc:cc<t.cells:=by rw [hce,Bn oM];exact hok.2.2.2.2.2 _ (List.getElem_mem _)
 refine Ai.of_T [(0,_),(1,_),(2,_),(3,_),(4,_)] func252 rfl ntmps252 sM rfl fun w0 hs=>?_
 have hB0:=hB
 have hN0:=hN
 have hA0:=hA
 have hB20:=hB2
 have hN20:=hN2
 have hA20:=hA2
 have he0:=he
 refine Wt 2 [] hs rfl<|O_s (Sb hs rfl fun b5 _ hs=>O_s (Sa hs zeroValue311 rfl fun b7 _ hs=>Wp 2 [0] hs rfl<|Bc [0,1,2,3,4,5,6,7,8,9,10,11,12,13,14,15,16,17,18,19] hs kR ?_))
 replace hs:=hs.drew
 refine Xt 0 hs rfl (Yg rfl (he 0 _ rfl)<|Xr [1] [257] hs rfl<|Xt 2 hs rfl (Yg rfl (hB 257 _ (Jj hcl))<|Xr [3,4] [0,1] hs rfl<|Xt 5 hs rfl (Bv hN a.p underlying41 sizeOf33 rfl rfl rfl oM fun p13 c13 hp13 hc13 hR13=>?_)))
 obtain ⟨rr,herr⟩:∃ r,r=t.next[a.p]'oM:=⟨_,rfl⟩
 rw [← herr] at hR13
 have hlrr:rr.length=t.cells∧∀ x∈rr,x<t.next.length:=hrows rr Z29
 obtain ⟨u13,rfl,hrr⟩:=hR13
 obtain ⟨A13,c13,rfl,_⟩:=id hrr
 refine Xt 6 hs rfl (Yg rfl (hp13 0 (.slice A13 rr.length c13) rfl)<|Xr [7,8] [0] hs rfl<|Xt 9 hs rfl (Bq c underlying298 sizeOf3 rfl rfl rfl oM<|Xt 10 hs rfl (Yg rfl (hB c (Cm cc) (by rw [hce];exact aC hcl hc))<|Xt 11 hs rfl (Eo hrr cc underlying33 sizeOf3 rfl rfl rfl oM fun p19 hp19=>?_))))
 obtain ⟨x,hxe⟩:∃ x,x=rr[cc]'oM:=⟨_,rfl⟩
 rw [← hxe] at hp19
 have hxN:x<t.next.length:=hlrr.2 x Z33
 refine Xt 12 hs rfl (Yg rfl (hp19)<|Xt 13 hs rfl (Cu (vs:=(Cg y.cell y.cells (.slice Ny y.next.length ny) (.slice Ay y.acc.length ay))) isAgg300 sizeOf300 rfl hB2.whole (Bp hcy)<|Xr [14,15,16] [2,1] hs rfl ?_))
 have hle:=hs.le
 refine Xo 17 rfl (Sc (oZ (s:=a.s) ⟨_,_,rfl,hcy,hN2,hA2⟩ hoky h64 hc) hs rfl fun v1 G' H' _ hR hG25 hs=>?_)
 obtain ⟨rfl,rfl⟩:=hR
 replace hs:=hs.n rfl
 replace hB:=hB.mono hG25
 replace hN:=hN.mono hG25
 replace hA:=hA.mono hG25
 refine Am hs hle hG25 (lSr _)<|Xt 18 hs rfl (Ba zeroValue311 rfl iZ rfl (cs:=[_,_,_]) rfl ?_)
 have hle:=hs.le
 refine Xo 19 rfl (Cb (args:=[_]) (lb:=[_]) (H1:=[]) hs rfl rfl func251 rfl kR (lX (a:=⟨x,0,Zp y a.s c⟩) ⟨_,_,hB,hcl,hN,hA⟩ (by show x<_;omega)) fun v2 G' H' _ hR hG27 hs=>?_)
 obtain ⟨rfl,rfl⟩:=hR
 replace hs:=hs.n rfl
 refine Am hs hle hG27 (lSr _)<|Xn 20 rfl (Sg hs rfl (rfl) fun _ hs=>Xe (Zk [7] rfl<|Ah<|Zz results252 (Rb 0 hs rfl rF) ?_))
 have hxx:t.to a.p (t.cell.getD c 0)=x:=by rw [← hce,iR oM (by rw [← herr];omega)];simp only [← herr];exact hxe.symm
 exact ⟨_,[],hs.done,rfl,by unfold Sj;rw [hxx];rfl⟩
theorem lZ {G:Ghost} {bx:Nat} {t:Tb} {a:Cs} (ht:eV G bx t) (h64:t.acc.length≤64) :
  Ai prog 255 [.agg #[Vi (a.p:Int),Vi (a.q:Int),.int .u64 (a.s:Int)],Vp bx] G [] fun r _ H'=>H'=[]∧r=.bool (Oe t a.s):=by
 obtain ⟨vn,va,hB,hcl,hN,hA⟩:=ht
 obtain ⟨An,cn,rfl⟩:=Be.slice hN
 obtain ⟨Aa,ca,rfl,_⟩:=id hA
 refine Ai.of_T [(0,_),(1,_)] func255 rfl ntmps255 sM rfl fun w0 hs=>?_
 have hB0:=hB
 have hN0:=hN
 have hA0:=hA
 refine Wt 2 [] hs rfl<|O_s (Sb hs rfl fun b2 _ hs=>Wp 4 [0] hs rfl<|Zy hs (Cu (vs:=(Cg t.cell t.cells (.slice An t.next.length cn) (.slice Aa t.acc.length ca))) isAgg300 sizeOf300 rfl hB.whole (Bp hcl)<|Wp 2 [2,0] hs rfl<|O_s (Sc (eU (s:=a.s) ⟨_,_,rfl,hcl,hN,hA⟩ h64) hs rfl fun v1 G' H' _ hR hG7 hs=>?_)))
 obtain ⟨rfl,rfl⟩:=hR
 replace hs:=hs.n rfl
 refine Wp 2 [0] hs rfl<|Ah<|Zz results255 rfl ?_
 exact ⟨_,[],hs.done,rfl,rfl⟩
theorem sE {G:Ghost} {v1 v2:Value} {d1 d2 e1 e2 D2:My} {RN:List (List Nat)×List Bool} (hd1:Oh G v1 d1) (hd2:Oh G v2 d2) (hv1:Hm d1=true) (hv2:Hm d2=true) (hok1:(Cf d1).ok) (hok2:(Cf d2).ok) (hD1:Eu (Cf d1)=some e1) (hD2:Eu (Cf d2)=some e2) (hc1:e1.cls.length≤256) (hc2:e2.cls.length≤256) (hok3:(Cf e1).ok) (hok4:(Cf e2).ok) (h64:(Cf e2).next.length≤64) (hT:Tab G)
  (hex:rR (Fq (Cf e1) (Cf e2)).bytes (Sj (Cf e1) (Cf e2)) (fun a=>Oe (Cf e2) a.s) 4096 4097 0 [(Jg (Cf e1) ⟨0,0,0⟩)] [] []=some (some RN)) (hen:(Jg (Cf e1) ⟨0,0,0⟩).p<(Cf e1).next.length) (hpn:∀ (a:Cs) (c:Nat),a.p<(Cf e1).next.length→c<256→(Sj (Cf e1) (Cf e2) a c).p<(Cf e1).next.length) (hokR:Tb.ok ⟨(Fq (Cf e1) (Cf e2)).cell,(Fq (Cf e1) (Cf e2)).bytes.length,RN.1,RN.2⟩) (hDR:Eu ⟨(Fq (Cf e1) (Cf e2)).cell,(Fq (Cf e1) (Cf e2)).bytes.length,RN.1,RN.2⟩=some D2) (hn2:D2.next.length≤64) :
  Ai prog 226 [v1,v2] G [] fun r G' H'=>H'=[]∧∃ vd,r=.tuple #[vd,Vi 0]∧Oh G' vd D2:=by
 obtain ⟨vc1,vn1,va1,rfl,hC1,hN1,hA1⟩:=hd1
 obtain ⟨Ac1,cc1,rfl⟩:=Be.slice hC1
 obtain ⟨An1,cn1,rfl⟩:=Be.slice hN1
 obtain ⟨Aa1,ca1,rfl,_⟩:=id hA1
 obtain ⟨vc2,vn2,va2,rfl,hC2,hN2,hA2⟩:=hd2
 obtain ⟨Ac2,cc2,rfl⟩:=Be.slice hC2
 obtain ⟨An2,cn2,rfl⟩:=Be.slice hN2
 obtain ⟨Aa2,ca2,rfl,_⟩:=id hA2
 have hcd1:=((Ip d1).1 hv1).2.2.2.2.1
 have hcd2:=((Ip d2).1 hv2).2.2.2.2.1
 have hJo:=Qr (a:=Cf e1) (b:=Cf e2) 256
 rw [← dJ] at hJo
 have hX3:=Si e1
 have hX4:=Si e2
 obtain ⟨X1,hX1e⟩:∃ X,X=Cf d1:=⟨_,rfl⟩
 obtain ⟨X2,hX2e⟩:∃ X,X=Cf d2:=⟨_,rfl⟩
 obtain ⟨X3,hX3e⟩:∃ X,X=Cf e1:=⟨_,rfl⟩
 obtain ⟨X4,hX4e⟩:∃ X,X=Cf e2:=⟨_,rfl⟩
 rw [← hX1e] at hok1 hD1
 rw [← hX2e] at hok2 hD2
 rw [← hX3e] at hok3 hex hen hpn hokR hDR hJo hX3
 rw [← hX4e] at hok4 h64 hex hpn hokR hDR hJo hX4
 obtain ⟨J,hJ⟩:∃ J,J=Fq X3 X4:=⟨_,rfl⟩
 rw [← hJ] at hex hokR hDR hJo
 have hJl:=hJo.cl
 have hJb:=hJo.le
 have hJ256:=hJo.bt
 have hal3:=hok3.2.2.1
 have hal4:=hok4.2.2.1
 have hn3:=hok3.1
 refine Ai.of_T [(0,_),(1,_)] func226 rfl ntmps226 sM rfl fun w0 hs=>?_
 have hC10:=hC1
 have hN10:=hN1
 have hA10:=hA1
 have hC20:=hC2
 have hN20:=hN2
 have hA20:=hA2
 have hT0:=hT
 refine Wt 2 [] hs rfl<|O_s (Sb hs rfl fun b2 _ hs=>O_s (Sb hs rfl fun b3 _ hs=>O_s (Sa hs zeroValue250 rfl fun b4 _ hs=>Wp 6 [0,2] hs rfl<|O_s (Sc (eW ⟨_,_,_,rfl,hC1,hN1,hA1⟩ hv1) hs rfl fun v1 G' H' _ hR hG15 hs=>?_))))
 obtain ⟨rfl,rfl⟩:=hR
 replace hs:=hs.n rfl
 replace hC1:=hC1.mono hG15
 replace hN1:=hN1.mono hG15
 replace hA1:=hA1.mono hG15
 replace hC2:=hC2.mono hG15
 replace hN2:=hN2.mono hG15
 replace hA2:=hA2.mono hG15
 replace hT:=hT.mono hG15
 refine Wp 3 [1] hs rfl<|Ch 17 rfl rfl (Sc (eW ⟨_,_,_,rfl,hC2,hN2,hA2⟩ hv2) hs rfl fun v2 G' H' _ hR hG19 hs=>?_)
 obtain ⟨rfl,rfl⟩:=hR
 replace hs:=hs.n rfl
 replace hC1:=hC1.mono hG19
 replace hN1:=hN1.mono hG19
 replace hA1:=hA1.mono hG19
 replace hC2:=hC2.mono hG19
 replace hN2:=hN2.mono hG19
 replace hA2:=hA2.mono hG19
 replace hT:=hT.mono hG19
 refine Wp 6 [0] hs rfl<|T_calm 2 [⟨0,23,fun G v=>v=.agg #[.slice Ac1 d1.cls.length cc1,.slice An1 d1.next.length cn1,.slice Aa1 d1.acc.length ca1],Rs⟩,⟨1,24,fun G v=>bO G v X1,Rs⟩,⟨2,25,fun G v=>Oh G v e1,Rs⟩,⟨3,26,fun G v=>bO G v X3,Rs⟩,⟨4,27,fun G v=>v=.agg #[.slice Ac2 d2.cls.length cc2,.slice An2 d2.next.length cn2,.slice Aa2 d2.acc.length ca2],Rs⟩,⟨5,28,fun G v=>bO G v X2,Rs⟩,⟨6,29,fun G v=>Oh G v e2,Rs⟩,⟨7,30,fun G v=>bO G v X4,Rs⟩,⟨8,6,fun G v=>oD G v,lL 300 (Cg (List.replicate 256 0) 0 (Vn) (Vn))⟩,⟨9,7,fun G v=>oD G v,lL 300 (Cg (List.replicate 256 0) 0 (Vn) (Vn))⟩] [(2,_),(3,_),(4,_)] hs ⟨rfl,rfl,rfl,trivial⟩ rfl kR kR (rE.mem ⟨fun _ _ _ _ h=>h,fun _ _ _ hG h=>h.mono hG,fun _ _ _ hG h=>h.mono hG,fun _ _ _ hG h=>h.mono hG,fun _ _ _ _ h=>h,fun _ _ _ hG h=>h.mono hG,fun _ _ _ hG h=>h.mono hG,fun _ _ _ hG h=>h.mono hG,fun _ _ _ _ h=>h,fun _ _ _ _ h=>h,trivial⟩) (rE.mem ⟨?_,?_,?_,?_,?_,?_,?_,?_,?_,?_,trivial⟩) ?_
 ·
  refine ⟨_,rfl,rfl,rfl,fun G1 Hx L1 w1 hG1 hs hL hd=>?_⟩
  have hC1:=hC1.mono hG1
  have hN1:=hN1.mono hG1
  have hA1:=hA1.mono hG1
  have hC2:=hC2.mono hG1
  have hN2:=hN2.mono hG1
  have hA2:=hA2.mono hG1
  have hT:=hT.mono hG1
  refine Pz [(2,_)] ⟨hL.1,trivial⟩<|S_y hs rfl (Gl 2 isAgg250 sizeOf250 rfl rfl (vs:=[_,_,_]) rfl rfl ?_)
  exact ⟨_,gLr _,rfl,hs⟩
 ·
  refine ⟨_,rfl,rfl,rfl,fun G1 Hx L1 w1 hG1 hs hL hd=>?_⟩
  have hC1:=hC1.mono hG1
  have hN1:=hN1.mono hG1
  have hA1:=hA1.mono hG1
  have hC2:=hC2.mono hG1
  have hN2:=hN2.mono hG1
  have hA2:=hA2.mono hG1
  have hT:=hT.mono hG1
  obtain ⟨u23,hv23,hR23⟩:=hd _ (List.mem_of_getElem? (i:=0) rfl) kR
  replace hR23:u23=.agg #[.slice Ac1 d1.cls.length cc1,.slice An1 d1.next.length cn1,.slice Aa1 d1.acc.length ca1]:=hR23
  subst hR23
  refine Pz [(23,_)] ⟨hv23,trivial⟩<|Et (H1:=[]) (H:=_::_::_::Hx) hs rfl func249 rfl kR (Kl ⟨_,_,_,rfl,hC1,hN1,hA1⟩ hcd1 hT) fun v3 G' H' _ hR hG24 hs=>?_
  obtain ⟨rfl,h24⟩:=hR
  replace hs:St _ _ (_::_::_::Hx) _:=hs
  exact ⟨_,hG24,(by rw [hX1e];exact h24),hs⟩
 ·
  refine ⟨_,rfl,rfl,rfl,fun G1 Hx L1 w1 hG1 hs hL hd=>?_⟩
  have hC1:=hC1.mono hG1
  have hN1:=hN1.mono hG1
  have hA1:=hA1.mono hG1
  have hC2:=hC2.mono hG1
  have hN2:=hN2.mono hG1
  have hA2:=hA2.mono hG1
  have hT:=hT.mono hG1
  obtain ⟨u24,hv24,hR24⟩:=hd _ (List.mem_of_getElem? (i:=1) rfl) kR
  replace hR24:bO G1 u24 X1:=hR24
  obtain ⟨u24,w24,rfl,hc24,hn24,ha24⟩:=hR24
  obtain ⟨N24,n24,rfl⟩:=Be.slice hn24
  obtain ⟨A24,a24,rfl,_⟩:=id ha24
  refine Pz [(24,_)] ⟨hv24,trivial⟩<|Et (H1:=[]) (H:=_::_::_::Hx) hs rfl func244 rfl kR (Lq ⟨_,_,rfl,hc24,hn24,ha24⟩ hok1 hD1) fun v4 G' H' _ hR hG25 hs=>?_
  obtain ⟨rfl,h25⟩:=hR
  replace hs:St _ _ (_::_::_::Hx) _:=hs
  exact ⟨_,hG25,h25,hs⟩
 ·
  refine ⟨_,rfl,rfl,rfl,fun G1 Hx L1 w1 hG1 hs hL hd=>?_⟩
  have hC1:=hC1.mono hG1
  have hN1:=hN1.mono hG1
  have hA1:=hA1.mono hG1
  have hC2:=hC2.mono hG1
  have hN2:=hN2.mono hG1
  have hA2:=hA2.mono hG1
  have hT:=hT.mono hG1
  obtain ⟨u25,hv25,hR25⟩:=hd _ (List.mem_of_getElem? (i:=2) rfl) kR
  replace hR25:Oh G1 u25 e1:=hR25
  have hq:=hR25
  obtain ⟨qc,qn,qa,rfl,hqC,hqN,hqA⟩:=hq
  obtain ⟨Cq,cq,rfl⟩:=Be.slice hqC
  obtain ⟨Nq,nq,rfl⟩:=Be.slice hqN
  obtain ⟨Aq,aq,rfl,_⟩:=id hqA
  refine Pz [(25,_)] ⟨hv25,trivial⟩<|Et (H1:=[]) (H:=_::_::_::Hx) hs rfl func249 rfl kR (Kl ⟨_,_,_,rfl,hqC,hqN,hqA⟩ hc1 hT) fun v5 G' H' _ hR hG26 hs=>?_
  obtain ⟨rfl,h26⟩:=hR
  replace hs:St _ _ (_::_::_::Hx) _:=hs
  exact ⟨_,hG26,(by rw [hX3e];exact h26),hs⟩
 ·
  refine ⟨_,rfl,rfl,rfl,fun G1 Hx L1 w1 hG1 hs hL hd=>?_⟩
  have hC1:=hC1.mono hG1
  have hN1:=hN1.mono hG1
  have hA1:=hA1.mono hG1
  have hC2:=hC2.mono hG1
  have hN2:=hN2.mono hG1
  have hA2:=hA2.mono hG1
  have hT:=hT.mono hG1
  refine Pz [(3,_)] ⟨hL.2.1,trivial⟩<|S_y hs rfl (Gl 1 isAgg250 sizeOf250 rfl rfl (vs:=[_,_,_]) rfl rfl ?_)
  exact ⟨_,gLr _,rfl,hs⟩
 ·
  refine ⟨_,rfl,rfl,rfl,fun G1 Hx L1 w1 hG1 hs hL hd=>?_⟩
  have hC1:=hC1.mono hG1
  have hN1:=hN1.mono hG1
  have hA1:=hA1.mono hG1
  have hC2:=hC2.mono hG1
  have hN2:=hN2.mono hG1
  have hA2:=hA2.mono hG1
  have hT:=hT.mono hG1
  obtain ⟨u27,hv27,hR27⟩:=hd _ (List.mem_of_getElem? (i:=4) rfl) kR
  replace hR27:u27=.agg #[.slice Ac2 d2.cls.length cc2,.slice An2 d2.next.length cn2,.slice Aa2 d2.acc.length ca2]:=hR27
  subst hR27
  refine Pz [(27,_)] ⟨hv27,trivial⟩<|Et (H1:=[]) (H:=_::_::_::Hx) hs rfl func249 rfl kR (Kl ⟨_,_,_,rfl,hC2,hN2,hA2⟩ hcd2 hT) fun v6 G' H' _ hR hG28 hs=>?_
  obtain ⟨rfl,h28⟩:=hR
  replace hs:St _ _ (_::_::_::Hx) _:=hs
  exact ⟨_,hG28,(by rw [hX2e];exact h28),hs⟩
 ·
  refine ⟨_,rfl,rfl,rfl,fun G1 Hx L1 w1 hG1 hs hL hd=>?_⟩
  have hC1:=hC1.mono hG1
  have hN1:=hN1.mono hG1
  have hA1:=hA1.mono hG1
  have hC2:=hC2.mono hG1
  have hN2:=hN2.mono hG1
  have hA2:=hA2.mono hG1
  have hT:=hT.mono hG1
  obtain ⟨u28,hv28,hR28⟩:=hd _ (List.mem_of_getElem? (i:=5) rfl) kR
  replace hR28:bO G1 u28 X2:=hR28
  obtain ⟨u28,w28,rfl,hc28,hn28,ha28⟩:=hR28
  obtain ⟨N28,n28,rfl⟩:=Be.slice hn28
  obtain ⟨A28,a28,rfl,_⟩:=id ha28
  refine Pz [(28,_)] ⟨hv28,trivial⟩<|Et (H1:=[]) (H:=_::_::_::Hx) hs rfl func244 rfl kR (Lq ⟨_,_,rfl,hc28,hn28,ha28⟩ hok2 hD2) fun v7 G' H' _ hR hG29 hs=>?_
  obtain ⟨rfl,h29⟩:=hR
  replace hs:St _ _ (_::_::_::Hx) _:=hs
  exact ⟨_,hG29,h29,hs⟩
 ·
  refine ⟨_,rfl,rfl,rfl,fun G1 Hx L1 w1 hG1 hs hL hd=>?_⟩
  have hC1:=hC1.mono hG1
  have hN1:=hN1.mono hG1
  have hA1:=hA1.mono hG1
  have hC2:=hC2.mono hG1
  have hN2:=hN2.mono hG1
  have hA2:=hA2.mono hG1
  have hT:=hT.mono hG1
  obtain ⟨u29,hv29,hR29⟩:=hd _ (List.mem_of_getElem? (i:=6) rfl) kR
  replace hR29:Oh G1 u29 e2:=hR29
  have hp:=hR29
  obtain ⟨pc,pn,pa,rfl,hpC,hpN,hpA⟩:=hp
  obtain ⟨Cp,cp,rfl⟩:=Be.slice hpC
  obtain ⟨Np,np,rfl⟩:=Be.slice hpN
  obtain ⟨Ap,ap,rfl,_⟩:=id hpA
  refine Pz [(29,_)] ⟨hv29,trivial⟩<|Et (H1:=[]) (H:=_::_::_::Hx) hs rfl func249 rfl kR (Kl ⟨_,_,_,rfl,hpC,hpN,hpA⟩ hc2 hT) fun v8 G' H' _ hR hG30 hs=>?_
  obtain ⟨rfl,h30⟩:=hR
  replace hs:St _ _ (_::_::_::Hx) _:=hs
  exact ⟨_,hG30,(by rw [hX4e];exact h30),hs⟩
 ·
  refine ⟨_,rfl,rfl,rfl,fun G1 Hx L1 w1 hG1 hs hL hd=>?_⟩
  have hC1:=hC1.mono hG1
  have hN1:=hN1.mono hG1
  have hA1:=hA1.mono hG1
  have hC2:=hC2.mono hG1
  have hN2:=hN2.mono hG1
  have hA2:=hA2.mono hG1
  have hT:=hT.mono hG1
  refine Pz [] trivial<|Bd hs zeroValue300 (cs:=(Cg (List.replicate 256 0) 0 (Vn) (Vn))) rfl fun b6 _ hs=>?_
  exact ⟨_,gLr _,⟨_,rfl⟩,hs⟩
 ·
  refine ⟨_,rfl,rfl,rfl,fun G1 Hx L1 w1 hG1 hs hL hd=>?_⟩
  have hC1:=hC1.mono hG1
  have hN1:=hN1.mono hG1
  have hA1:=hA1.mono hG1
  have hC2:=hC2.mono hG1
  have hN2:=hN2.mono hG1
  have hA2:=hA2.mono hG1
  have hT:=hT.mono hG1
  refine Pz [] trivial<|Bd hs zeroValue300 (cs:=(Cg (List.replicate 256 0) 0 (Vn) (Vn))) rfl fun b7 _ hs=>?_
  exact ⟨_,gLr _,⟨_,rfl⟩,hs⟩
 intro G2 vals L2 w2 hG2 hs hL hv
 obtain ⟨hv26,hR26⟩:=hv _ (List.mem_of_getElem? (i:=3) rfl)
 replace hv26:Ge L2 26=some (vals 3):=hv26
 replace hR26:bO G2 (vals 3) X3:=hR26
 obtain ⟨hv30,hR30⟩:=hv _ (List.mem_of_getElem? (i:=7) rfl)
 replace hv30:Ge L2 30=some (vals 7):=hv30
 replace hR30:bO G2 (vals 7) X4:=hR30
 obtain ⟨hv6,hR6⟩:=hv _ (List.mem_of_getElem? (i:=8) rfl)
 replace hv6:Ge L2 6=some (vals 8):=hv6
 replace hR6:oD G2 (vals 8):=hR6
 obtain ⟨b6,hb6⟩:=hR6
 rw [hb6] at hv6
 obtain ⟨hv7,hR7⟩:=hv _ (List.mem_of_getElem? (i:=9) rfl)
 replace hv7:Ge L2 7=some (vals 9):=hv7
 replace hR7:oD G2 (vals 9):=hR7
 obtain ⟨b7,hb7⟩:=hR7
 rw [hb7] at hv7
 simp only [Gc,List.flatMap_cons,List.flatMap_nil,cond_true,Rs,lL,rowRes,List.nil_append,List.append_nil,List.cons_append,List.singleton_append,hb6,hb7] at hs
 obtain ⟨u26,hu26⟩:∃ u,u=vals 3:=⟨_,rfl⟩
 rw [← hu26] at hv26 hR26
 clear hu26
 obtain ⟨u26,w26,rfl,hc26,hn26,ha26⟩:=hR26
 obtain ⟨N26,n26,rfl⟩:=Be.slice hn26
 obtain ⟨A26,a26,rfl,_⟩:=id ha26
 obtain ⟨u30,hu30⟩:∃ u,u=vals 7:=⟨_,rfl⟩
 rw [← hu30] at hv30 hR30
 clear hu30
 obtain ⟨u30,w30,rfl,hc30,hn30,ha30⟩:=hR30
 obtain ⟨N30,n30,rfl⟩:=Be.slice hn30
 obtain ⟨A30,a30,rfl,_⟩:=id ha30
 refine A_sub [(26,_),(30,_),(6,_),(7,_),(4,_)] ⟨hv26,hv30,hv6,hv7,hL.2.2.1,trivial⟩<|Xn 10 rfl (Sw hs.f3 rfl Z3 Z3 (Gi rfl rfl) fun _ hs=>Xn 11 rfl (Sw hs.f4 rfl Z3 Z3 (Gi rfl rfl) fun _ hs=>Xe (Zk [4,6,7] rfl<|Wt 2 [] hs rfl<|Zy hs (Yk 1 rfl (Bp hX3)<|Zy hs (Yk 0 rfl (Bp hX4)<|O_s (Sc (iW ⟨_,_,rfl,hX3,hn26,ha26⟩ ⟨_,_,rfl,hX4,hn30,ha30⟩) hs rfl fun v9 G' H' _ hR hG34 hs=>?_))))))
 obtain ⟨rfl,vj,rfl,hj⟩:=hR
 replace hs:=hs.n rfl
 replace hn26:=hn26.mono hG34
 replace ha26:=ha26.mono hG34
 replace hn30:=hn30.mono hG34
 replace ha30:=ha30.mono hG34
 rw [← hJ] at hj ⊢
 obtain ⟨Aj,cj,rfl,_⟩:=id hj
 refine Wp 3 [] hs rfl<|O_s (Bd hs zeroValue298 (cs:=(List.map Ji (List.replicate 256 0))) rfl fun b8 _ hs =>O_n (Sw hs rfl Z3 Z3 (aL) fun _ hs=>Wp 2 [0] hs rfl ?_))
 have hs:=hs.f2
 obtain ⟨_,hGbhB6,hB6,hs⟩:=hs.fixBlk (fun k _=>Ht k)
 replace hn26:=hn26.mono hGbhB6
 replace ha26:=ha26.mono hGbhB6
 replace hn30:=hn30.mono hGbhB6
 replace ha30:=ha30.mono hGbhB6
 replace hj:=hj.mono hGbhB6
 replace hB6:Br _ b6 _:=hB6
 have hs:=hs.f1
 obtain ⟨_,hGbhB7,hB7,hs⟩:=hs.fixBlk (fun k _=>Ht k)
 replace hn26:=hn26.mono hGbhB7
 replace ha26:=ha26.mono hGbhB7
 replace hn30:=hn30.mono hGbhB7
 replace ha30:=ha30.mono hGbhB7
 replace hj:=hj.mono hGbhB7
 replace hB6:=hB6.mono hGbhB7
 replace hB7:Br _ b7 _:=hB7
 refine Wu 2 [] hs rfl<|Zy hs (Dn (vs:=[_]) rfl<|O_s (Sa hs zeroValue312 rfl fun b10 _ hs=>O_n (Sd hs rfl rfl fun _ hs=>Wp 1 [0] hs rfl ?_)))
 obtain ⟨_,hGbhE,hE,hs⟩:=hs.fixBlk (fun k _=>Ht k)
 replace hn26:=hn26.mono hGbhE
 replace ha26:=ha26.mono hGbhE
 replace hn30:=hn30.mono hGbhE
 replace ha30:=ha30.mono hGbhE
 replace hj:=hj.mono hGbhE
 replace hB6:=hB6.mono hGbhE
 replace hB7:=hB7.mono hGbhE
 replace hE:Br _ b10 _:=hE
 refine Wu 2 [] hs rfl<|Zy hs (Dn (vs:=[_,_,_]) rfl<|Wp 3 [0] hs rfl<|Bc [0,1,2,3,4,5,6,7,8,9,11] hs kR ?_)
 replace hs:=hs.drew
 refine Xt 0 hs rfl (Yk 0 rfl ((List.length_map _).trans hJl)<|Xr [1] [] hs rfl<|Xt 2 hs rfl (Yg rfl (hE 0 _ rfl)<|Xt 3 hs rfl (Ba zeroValue311 rfl iZ rfl (cs:=[_,_,_]) rfl<|Xr [5] [] hs rfl<|Xt 6 hs rfl (Dn (vs:=[_]) rfl<|Kq 4 11 rfl rfl kR rfl rfl ?_ ?_))))
 ·
  have hle:=hs.le
  refine Cb (args:=[_]) (lb:=[_]) (H1:=[]) hs rfl rfl func251 rfl kR (lX (a:=⟨0,0,0⟩) ⟨_,_,hB6,hX3,hn26,ha26⟩ (by show 0<_;omega)) fun v10 G' H' _ hR hG44 hs=>?_
  obtain ⟨rfl,rfl⟩:=hR
  replace hs:=hs.n rfl
  replace hn26:=hn26.mono hG44
  replace ha26:=ha26.mono hG44
  replace hn30:=hn30.mono hG44
  replace ha30:=ha30.mono hG44
  replace hj:=hj.mono hG44
  replace hB6:=hB6.mono hG44
  replace hB7:=hB7.mono hG44
  replace hE:=hE.mono hG44
  refine Am hs hle hG44 (lSr _)<|Kq 7 11 rfl rfl kR rfl rfl ?_ ?_
  ·
   have hle:=hs.le
   refine Et (H1:=[]) hs rfl func254 rfl kR (Wi (start:=Jg X3 ⟨0,0,0⟩) (nx:=Sj X3 X4) (ac:=fun a=>Oe X4 a.s) (ok:=fun a=>a.p<X3.next.length) (most:=4096) (lb1:=[Vp b10,Vp b6,Vp b7]) (lb2:=[Vp b7]) hJl hj hJb dC dC hen (fun a c hc h=>hpn a c h (hJ256 c hc)) func252 rfl kR func255 rfl kR (fun G' s c ho hc hG=>lY (hE.mono hG) ⟨_,_,hB6.mono hG,hX3,hn26.mono hG,ha26.mono hG⟩ ⟨_,_,hB7.mono hG,hX4,hn30.mono hG,ha30.mono hG⟩ hok3 hok4 h64 (hJ256 c hc) ho) (fun G' s _ hG=>lZ ⟨_,_,hB7.mono hG,hX4,hn30.mono hG,ha30.mono hG⟩ oM) hex) fun v11 G' H' _ hR hG47 hs=>?_
   obtain ⟨rfl,vt,rfl,h32⟩:=hR
   replace hs:=hs.n rfl
   obtain ⟨u32,w32,rfl,hc32,hn32,ha32⟩:=h32
   obtain ⟨N32,n32,rfl⟩:=Be.slice hn32
   obtain ⟨A32,a32,rfl,_⟩:=id ha32
   refine Am hs hle hG47 (lSr _)<|Xr [8] [] hs rfl<|Ky 10 rfl kR rfl (Oz rfl rfl<|Xr [9] [] hs rfl ?_)
   have hle:=hs.le
   refine Xo 11 rfl (Bd hs zeroValue300 (cs:=(Cg (List.replicate 256 0) 0 (Vn) (Vn))) rfl fun b12 _ hs =>Am hs hle (gLr _) (List.sublist_cons_self _ _)<|Xn 12 rfl (Sw hs rfl Z3 Z3 (Gi rfl rfl) fun _ hs=>Xa 13 rfl (S_y hs rfl (Yq rfl<|Xe (Zk [4,12,13] rfl<|Wu 10 [0] hs rfl<|Zy hs (Yk 0 rfl (Bp hJl)<|O_s (Sc (Ml (t:=(⟨J.cell,J.bytes.length,RN.1,RN.2⟩:Tb)) ⟨_,_,rfl,hJl,hn32,ha32⟩ hokR hDR hn2) hs rfl fun v12 G' H' _ hR hG54 hs=>?_)))))))
   obtain ⟨rfl,vd,rfl,hz⟩:=hR
   replace hs:=hs.n rfl
   obtain ⟨zc,zn,za,rfl,hzC,hzN,hzA⟩:=hz
   obtain ⟨Cz,cz,rfl⟩:=Be.slice hzC
   obtain ⟨Nz,nz,rfl⟩:=Be.slice hzN
   obtain ⟨Az,az,rfl,_⟩:=id hzA
   refine Wp 2 [] hs rfl<|O_n (Sg hs.f2 rfl (rfl) fun _ hs=>Wp 2 [0] hs rfl<|Ah ?_)
   have hr:=hs
   refine Bi (vs:=[_,_]) results226 rfl ⟨Bk 0 hr isAgg250 sizeOf250 rfl (cs:=[_,_,_]) rfl rfl,rfl,trivial⟩ ?_
   try dsimp only [tup]
   exact ⟨_,[],hs.done,rfl,_,rfl,_,_,_,rfl,hzC,hzN,hzA⟩
  have hle:=hs.le
  refine Bd hs zeroValue300 (cs:=(Cg (List.replicate 256 0) 0 (Vn) (Vn))) rfl fun b12 _ hs =>Am hs hle (gLr _) (List.sublist_cons_self _ _) ?_
  have hle:=hs.le
  refine Xo 7 rfl (Sc (Wi (start:=Jg X3 ⟨0,0,0⟩) (nx:=Sj X3 X4) (ac:=fun a=>Oe X4 a.s) (ok:=fun a=>a.p<X3.next.length) (most:=4096) (lb1:=[Vp b10,Vp b6,Vp b7]) (lb2:=[Vp b7]) hJl hj hJb dC dC hen (fun a c hc h=>hpn a c h (hJ256 c hc)) func252 rfl kR func255 rfl kR (fun G' s c ho hc hG=>lY (hE.mono hG) ⟨_,_,hB6.mono hG,hX3,hn26.mono hG,ha26.mono hG⟩ ⟨_,_,hB7.mono hG,hX4,hn30.mono hG,ha30.mono hG⟩ hok3 hok4 h64 (hJ256 c hc) ho) (fun G' s _ hG=>lZ ⟨_,_,hB7.mono hG,hX4,hn30.mono hG,ha30.mono hG⟩ oM) hex) hs rfl fun v13 G' H' _ hR hG47 hs=>?_)
  obtain ⟨rfl,vt,rfl,h32⟩:=hR
  replace hs:=hs.n rfl
  obtain ⟨u32,w32,rfl,hc32,hn32,ha32⟩:=h32
  obtain ⟨N32,n32,rfl⟩:=Be.slice hn32
  obtain ⟨A32,a32,rfl,_⟩:=id ha32
  refine Am hs hle hG47 (lSr _)<|Xr [8] [] hs rfl<|Ky 10 rfl kR rfl (Oz rfl rfl<|Xr [9] [] hs rfl<|Xn 12 rfl (Sw hs rfl Z3 Z3 (Gi rfl rfl) fun _ hs=>Xa 13 rfl (S_y hs rfl (Yq rfl<|Xe (Zk [4,12,13] rfl<|Wu 10 [0] hs rfl<|Zy hs (Yk 0 rfl (Bp hJl)<|O_s (Sc (Ml (t:=(⟨J.cell,J.bytes.length,RN.1,RN.2⟩:Tb)) ⟨_,_,rfl,hJl,hn32,ha32⟩ hokR hDR hn2) hs rfl fun v14 G' H' _ hR hG54 hs=>?_)))))))
  obtain ⟨rfl,vd,rfl,hz⟩:=hR
  replace hs:=hs.n rfl
  obtain ⟨zc,zn,za,rfl,hzC,hzN,hzA⟩:=hz
  obtain ⟨Cz,cz,rfl⟩:=Be.slice hzC
  obtain ⟨Nz,nz,rfl⟩:=Be.slice hzN
  obtain ⟨Az,az,rfl,_⟩:=id hzA
  refine Wp 2 [] hs rfl<|O_n (Sg hs.f2 rfl (rfl) fun _ hs=>Wp 2 [0] hs rfl<|Ah ?_)
  have hr:=hs
  refine Bi (vs:=[_,_]) results226 rfl ⟨Bk 0 hr isAgg250 sizeOf250 rfl (cs:=[_,_,_]) rfl rfl,rfl,trivial⟩ ?_
  try dsimp only [tup]
  exact ⟨_,[],hs.done,rfl,_,rfl,_,_,_,rfl,hzC,hzN,hzA⟩
 have hle:=hs.le
 refine Bd hs zeroValue300 (cs:=(Cg (List.replicate 256 0) 0 (Vn) (Vn))) rfl fun b12 _ hs =>Am hs hle (gLr _) (List.sublist_cons_self _ _) ?_
 have hle:=hs.le
 refine Xo 4 rfl (Cb (args:=[_]) (lb:=[_]) (H1:=[]) hs rfl rfl func251 rfl kR (lX (a:=⟨0,0,0⟩) ⟨_,_,hB6,hX3,hn26,ha26⟩ (by show 0<_;omega)) fun v15 G' H' _ hR hG44 hs=>?_)
 obtain ⟨rfl,rfl⟩:=hR
 replace hs:=hs.n rfl
 replace hn26:=hn26.mono hG44
 replace ha26:=ha26.mono hG44
 replace hn30:=hn30.mono hG44
 replace ha30:=ha30.mono hG44
 replace hj:=hj.mono hG44
 replace hB6:=hB6.mono hG44
 replace hB7:=hB7.mono hG44
 replace hE:=hE.mono hG44
 refine Am hs hle hG44 (lSr _) ?_
 have hle:=hs.le
 refine Xo 7 rfl (Sc (Wi (start:=Jg X3 ⟨0,0,0⟩) (nx:=Sj X3 X4) (ac:=fun a=>Oe X4 a.s) (ok:=fun a=>a.p<X3.next.length) (most:=4096) (lb1:=[Vp b10,Vp b6,Vp b7]) (lb2:=[Vp b7]) hJl hj hJb dC dC hen (fun a c hc h=>hpn a c h (hJ256 c hc)) func252 rfl kR func255 rfl kR (fun G' s c ho hc hG=>lY (hE.mono hG) ⟨_,_,hB6.mono hG,hX3,hn26.mono hG,ha26.mono hG⟩ ⟨_,_,hB7.mono hG,hX4,hn30.mono hG,ha30.mono hG⟩ hok3 hok4 h64 (hJ256 c hc) ho) (fun G' s _ hG=>lZ ⟨_,_,hB7.mono hG,hX4,hn30.mono hG,ha30.mono hG⟩ oM) hex) hs rfl fun v16 G' H' _ hR hG47 hs=>?_)
 obtain ⟨rfl,vt,rfl,h32⟩:=hR
 replace hs:=hs.n rfl
 obtain ⟨u32,w32,rfl,hc32,hn32,ha32⟩:=h32
 obtain ⟨N32,n32,rfl⟩:=Be.slice hn32
 obtain ⟨A32,a32,rfl,_⟩:=id ha32
 refine Am hs hle hG47 (lSr _)<|Xr [8] [] hs rfl<|Ky 10 rfl kR rfl (Oz rfl rfl<|Xr [9] [] hs rfl<|Xn 12 rfl (Sw hs rfl Z3 Z3 (Gi rfl rfl) fun _ hs=>Xa 13 rfl (S_y hs rfl (Yq rfl<|Xe (Zk [4,12,13] rfl<|Wu 10 [0] hs rfl<|Zy hs (Yk 0 rfl (Bp hJl)<|O_s (Sc (Ml (t:=(⟨J.cell,J.bytes.length,RN.1,RN.2⟩:Tb)) ⟨_,_,rfl,hJl,hn32,ha32⟩ hokR hDR hn2) hs rfl fun v17 G' H' _ hR hG54 hs=>?_)))))))
 obtain ⟨rfl,vd,rfl,hz⟩:=hR
 replace hs:=hs.n rfl
 obtain ⟨zc,zn,za,rfl,hzC,hzN,hzA⟩:=hz
 obtain ⟨Cz,cz,rfl⟩:=Be.slice hzC
 obtain ⟨Nz,nz,rfl⟩:=Be.slice hzN
 obtain ⟨Az,az,rfl,_⟩:=id hzA
 refine Wp 2 [] hs rfl<|O_n (Sg hs.f2 rfl (rfl) fun _ hs=>Wp 2 [0] hs rfl<|Ah ?_)
 have hr:=hs
 refine Bi (vs:=[_,_]) results226 rfl ⟨Bk 0 hr isAgg250 sizeOf250 rfl (cs:=[_,_,_]) rfl rfl,rfl,trivial⟩ ?_
 try dsimp only [tup]
 exact ⟨_,[],hs.done,rfl,_,rfl,_,_,_,rfl,hzC,hzN,hzA⟩
theorem canc_ok {G:Ghost} {v:Value} {d D:My} (hd:Oh G v d) (hv:Hm d=true) (hok:(Cf d).ok) (hD:Eu (Cf d)=some D) (hT:Tab G) :
  Ai prog 242 [v] G [] fun r G' H'=>H'=[]∧∃ vd,r=.tuple #[vd,Vi 0]∧Oh G' vd D:=by
 obtain ⟨vc,vn,va,rfl,hC,hN,hA⟩:=hd
 obtain ⟨Ac,cc,rfl⟩:=Be.slice hC
 obtain ⟨An,cn,rfl⟩:=Be.slice hN
 obtain ⟨Aa,ca,rfl,_⟩:=id hA
 have hcd:=((Ip d).1 hv).2.2.2.2.1
 obtain ⟨X,hX⟩:∃ X,X=Cf d:=⟨_,rfl⟩
 rw [← hX] at hok hD
 refine Ai.of_T [(0,_)] func242 rfl ntmps242 sM rfl fun w0 hs=>?_
 have hC0:=hC
 have hN0:=hN
 have hA0:=hA
 have hT0:=hT
 refine Wt 2 [] hs rfl<|O_s (Sb hs rfl fun b1 _ hs=>O_s (Sa hs zeroValue250 rfl fun b2 _ hs=>Wp 6 [0,1] hs rfl<|O_s (Sc (eW ⟨_,_,_,rfl,hC,hN,hA⟩ hv) hs rfl fun v1 G' H' _ hR hG5 hs=>?_)))
 obtain ⟨rfl,rfl⟩:=hR
 replace hs:=hs.n rfl
 replace hC:=hC.mono hG5
 replace hN:=hN.mono hG5
 replace hA:=hA.mono hG5
 replace hT:=hT.mono hG5
 refine Wp 7 [0,1] hs rfl<|O_s (Sc (Kl ⟨_,_,_,rfl,hC,hN,hA⟩ hcd hT) hs rfl fun v2 G' H' _ hR hG9 hs=>?_)
 obtain ⟨rfl,h9⟩:=hR
 replace hs:=hs.n rfl
 rw [← hX] at h9
 obtain ⟨u9,w9,rfl,hc9,hn9,ha9⟩:=h9
 obtain ⟨N9,n9,rfl⟩:=Be.slice hn9
 obtain ⟨A9,a9,rfl,_⟩:=id ha9
 refine O_s (Sc (Lq ⟨_,_,rfl,hc9,hn9,ha9⟩ hok hD) hs rfl fun v3 G' H' _ hR hG10 hs=>?_)
 obtain ⟨rfl,hz⟩:=hR
 replace hs:=hs.n rfl
 obtain ⟨zc,zn,za,rfl,hzC,hzN,hzA⟩:=hz
 obtain ⟨Cz,cz,rfl⟩:=Be.slice hzC
 obtain ⟨Nz,nz,rfl⟩:=Be.slice hzN
 obtain ⟨Az,az,rfl,_⟩:=id hzA
 refine O_n (Sg hs rfl (rfl) fun _ hs=>Wp 2 [0] hs rfl<|Ah ?_)
 have hr:=hs
 refine Bi (vs:=[_,_]) results242 rfl ⟨Bk 0 hr isAgg250 sizeOf250 rfl (cs:=[_,_,_]) rfl rfl,rfl,trivial⟩ ?_
 try dsimp only [tup]
 exact ⟨_,[],hs.done,rfl,_,rfl,_,_,_,rfl,hzC,hzN,hzA⟩
theorem wM {lp b:Nat} {G:Ghost} {c:List Nat} {H0:List Res} {J:Ghost→List Res→Prop} {a:UInt8} (hcb:Qa G b c) (hc:c.length=4) (hw:∀ w∈c,w<W64) (hT:Tab G) (ha:(Bu c)[0]?=some a)
  (hY:∀ G',G.le G'→Dm prog lp [.int .u8 (a.toNat:Int)] G' H0 fun r G'' H''=>r=Vf∧J G'' H'') :
  Ai prog 310 [.func (.yield lp) #[] #[],Vp b] G H0 fun _ G' H'=>J G' H':=by
 refine Ai.of_T [(0,_),(1,_)] func310 rfl ntmps310 sM rfl fun w0 hs=>?_
 have hcb0:=hcb
 have hT0:=hT
 refine Wt 2 [] hs rfl<|Zy hs (Cu (vs:=List.map Af c) isAgg127 sizeOf127 rfl hcb.whole (by rw [List.length_map,hc])<|Wp 2 [0] hs rfl<|Zl [0,5,6] (fun m E w=>∃ (k:Nat) (G':Ghost),k≤4∧Bu c=La k (c.drop k)∧m=4-k∧E=⟨[],[(0,.func (.yield lp) #[] #[]),(5,(Gm c)),(6,Vi (k:Int))]⟩∧St ⟨w0,G,Bl H0⟩ G' H0 w) rfl (⟨0,_,by omega,rfl,rfl,rfl,hs⟩) fun m E w hI=>?_)
 obtain ⟨k,G',hk,hd,rfl,rfl,hs⟩:=hI
 have hcb:=hcb0.mono hs.le
 have hT:=hT0.mono hs.le
 refine Wt 2 [] hs rfl<|Zy hs (Yc rfl (fun h7=>?_) fun h7=>?_)
 ·
  refine Wp 9 [0] hs rfl<|Zy hs (Rn (vs:=List.map Af c) (v:=Af c[k]) k underlying127 isAgg125 sizeOf125 rfl rfl rfl oM (eN c k oM)<|Wp 3 [0] hs rfl<|Dp (Ej 1 (L:=[(0,_),(3,_),(4,_),(5,_),(6,_)]) ⟨rfl,rfl,rfl,rfl,rfl,trivial⟩ (Gn ?_)))
  have hwk:=hw c[k] (List.getElem_mem (show k<c.length by omega))
  rw [List.drop_eq_getElem_cons (show k<c.length by omega),La] at hd
  generalize hwd:c[k]=wd at hd hwk ⊢
  refine Wt 4 [] hs rfl<|Zy hs (Yc rfl (fun h11=>?_) fun h11=>?_)
  ·
   rw [show Vw k wd wd=UInt8.ofNat (64*k+rM wd)::Vw k (wd-1) (Ei wd (Lj wd 1)) from by obtain ⟨f,rfl⟩:∃ q,wd=q+1:=⟨wd-1,by omega⟩;rw [Vw,if_neg oM];rfl,List.cons_append] at hd
   have hst:UInt8.ofNat (64*k+rM wd)=a:=by rw [hd] at ha;simpa using ha
   have htz:=vH wd
   refine Wp 9 [0] hs rfl<|Zy hs (Xh (c:=((64*k:Nat):Int)) rfl rfl oM oM<|Wp 1 [] hs rfl<|O_s (Et (H1:=[]) (H:=H0) hs rfl func311 rfl kR (tz_ok hT) fun v1 G' H' _ hR hG16 hs=>?_))
   obtain ⟨rfl,rfl⟩:=hR
   replace hs:St _ _ H0 _:=hs
   refine Zy hs (Ya (s:=((64*k+rM wd:Nat):Int)) rfl<|Zy hs (Dj underlying3 underlying5 (c:=((UInt8.ofNat (64*k+rM wd)).toNat:Int)) rfl (Jf _)<|O_s (nT (H1:=H0) (H:=[]) Z37 rfl rfl (hst▸hY _ hs.le) fun v G'' H'' w' hR hG19 hs=>?_)))
   obtain ⟨rfl,hJ⟩:=hR
   rw [List.append_nil] at hs
   refine Wp 3 [0] hs rfl<|Ah ?_
   refine Bi (vs:=[]) results310 rfl trivial ?_
   try dsimp only [tup]
   exact ⟨_,_,hs,hJ⟩
  refine Wp 3 [0] hs rfl ?_
  refine Zr<|Zy hs (Ya (s:=((k+1:Nat):Int)) rfl<|Wp 1 [] hs rfl ?_)
  obtain rfl:wd=0:=by omega
  rw [dA,List.nil_append] at hd
  refine Zx [0,5,6] rfl ⟨k+1,_,by omega,hd,rfl,rfl,hs⟩
 refine Wp 4 [0] hs rfl ?_
 try dsimp only [Ex.At,Ex.sqs,Ex.sq,Ex.lp,Ex.bk]
 try rw [show Nat.beq _ _=true from Nat.beq_refl _,cond_true]
 refine Ez (vs:=[]) results310 rfl trivial ?_
 try dsimp only [tup]
 obtain rfl:k=4:=by omega
 rw [List.drop_eq_nil_of_le (by omega:c.length≤4)] at hd
 rw [hd] at ha;cases ha
theorem Sk {G:Ghost} {c:List Nat} {a:UInt8} (hc:c.length=4) (hw:∀ w∈c,w<W64) (hT:Tab G) (ha:(Bu c)[0]?=some a) :
  Ai prog 247 [Gm c] G [] fun r _ H'=>H'=[]∧r=Vi (a.toNat:Int):=by
 refine Ai.of_TM [(0,_)] func247 rfl ntmps247 sM rfl fun w0 hs=>?_
 have hT0:=hT
 refine Wt 2 [] hs rfl<|O_s (Dw hs rfl (cs:=(List.map Af c)) rfl fun b1 _ hs =>O_s (Sa hs zeroValue3 rfl fun b2 _ hs=>Wp 4 [0] hs rfl<|Zy hs (Yk 1 rfl (by rw [List.length_map,hc])<|O_s (Sc (oL hc) hs rfl fun v1 G' H' _ hR hG5 hs=>?_))))
 obtain ⟨rfl,b,rfl,hcb⟩:=hR
 replace hs:=hs.n rfl
 replace hT:=hT.mono hG5
 refine Wp 1 [0] hs rfl ?_
 have hs:=hs.f1.f1
 refine Wu 1 [] hs rfl<|Rm (H1:=[_,_]) (H:=[]) (R:=fun j G' H2=>j=some .ret∧H2=[.blk b2 3 [Vi (a.toNat:Int)],.blk b1 127 (List.map Af c)]) hs rfl func310 rfl kR ?hit ?done
 case hit =>
  intro lp D rec hp ha2 hbd hst hpe hAg
  obtain ⟨state,pending,fn',tmps,params,assign,body,defers⟩:=rec
  dsimp only at hp ha2 hbd hst hpe hAg
  subst hst hpe
  refine Ai.mono (wM (lp:=lp) (a:=a) (J:=fun G' H'=>H'=[.obj lp (.loop { state:=.done,pending:=some .ret,fn:=fn',tmps:=tmps,params:=params,assign:=assign,body:=body,defers:=defers }),.obj D (.deferred (some [])),.blk b2 3 [Vi (a.toNat:Int)],.blk b1 127 (List.map Af c)]) hcb hc hw hT ha ?round) ?fin
  case fin =>
   rintro r G' H' _ rfl
   exact ⟨_,_,_,rfl,by simp,rfl,rfl⟩
  intro G' hle
  subst hp ha2 hbd
  refine Dm.of_TX hAg rfl rfl sM rfl fun w1 hs =>Wt 2 [] hs rfl<|Cl ⟨hs,fun w2 hs=>?_⟩
  refine Wt 4 [] hs rfl<|Zy hs (Dj underlying5 underlying3 (c:=(a.toNat:Int)) rfl (gQ a)<|O_n (Sd hs.f2 rfl rfl fun _ hs=>Wp 1 [0] hs rfl<|Ah ?_))
  have hs:=hs.f3.f1.f3.f3
  exact ⟨_,_,hs,rfl,rfl⟩
 case done =>
  rintro lp D o' j G' H2 w' ⟨rfl,rfl⟩ hle hs
  refine Ah<|nV hs (vs:=[_]) results247 rfl (fun _ hs=>⟨⟨gW 1 hs isAgg3 rfl rfl,trivial⟩,?_⟩)
  try dsimp only [tup]
  exact ⟨_,[],hs.done,rfl,rfl⟩
theorem min1_ok {G:Ghost} {x y:Nat} :
  Ai prog 307 [Af x,Af y] G [] fun r _ H'=>H'=[]∧r=Af (Ei x (Mw 18446744073709551615 y)):=by
 refine Ai.of_T [(0,_),(1,_)] func307 rfl ntmps307 sM rfl fun w0 hs =>Wt 8 [0] hs rfl<|Zy hs (lM rfl rfl<|Wp 2 [0] hs rfl<|Ah<|Zz results307 rfl ?_)
 exact ⟨_,[],hs.done,rfl,rfl⟩
def Lc (a b:List Nat):List Nat:=List.zipWith (fun x y=>Ei x (Mw 18446744073709551615 y)) a b
theorem aN {a b:List Nat} (h:a.length=4) (h2:b.length=4):(Lc a b).length=4:=by unfold Lc;rw [List.length_zipWith];omega
theorem wN {G:Ghost} {a b:List Nat} (ha:a.length=4) (hb:b.length=4) :
  Ai prog 276 [Gm a,Gm b] G [] fun r _ H'=>H'=[]∧r=Gm (Lc a b):=by
 have hn:=aN ha hb
 refine Ai.of_T [(0,_),(1,_)] func276 rfl ntmps276 sM rfl fun w0 hs =>Wt 2 [] hs rfl<|O_s (Dw hs rfl (cs:=(List.map Af a)) rfl fun b2 _ hs =>O_s (Dw hs rfl (cs:=(List.map Af b)) rfl fun b3 _ hs =>O_s (Bd hs zeroValue127 (cs:=(List.map Af [0,0,0,0])) rfl fun b4 _ hs =>Wp 3 [0] hs rfl<|Zy hs (Yk 2 rfl Kn<|Zy hs (Yk 1 rfl Kn<|O_s (Sc (Wh ha hb func307 rfl kR (fun _ _ _=>min1_ok)) hs rfl fun v1 G' H' _ hR hG7 hs=>?_))))))
 obtain ⟨rfl,rfl⟩:=hR
 replace hs:=hs.n rfl
 refine O_n (Sw hs rfl (vs:=(List.map Af (Lc a b))) Kn Kn (Df _) fun _ hs=>Wp 1 [0] hs rfl<|Ah ?_)
 have hr:=hs
 refine Bi (vs:=[_]) results276 rfl ⟨Bk 0 hr isAgg127 sizeOf127 rfl (cs:=(List.map Af (Lc a b))) rfl Kn,trivial⟩ ?_
 try dsimp only [tup]
 exact ⟨_,[],hs.done,rfl,rfl⟩
theorem cmpc_ok {G:Ghost} {a b:List Nat} {x y:UInt8} (ha:a.length=4) (hb:b.length=4) (hwa:∀ w∈a,w<W64) (hwb:∀ w∈b,w<W64) (hT:Tab G) (hx:(Bu a)[0]?=some x) (hy:(Bu b)[0]?=some y) :
  Ai prog 278 [Gm a,Gm b] G [] fun r _ H'=>H'=[]∧r=Vi ((x.toNat:Int)-(y.toNat:Int)):=by
 have hx1:=x.toNat_lt
 have hy1:=y.toNat_lt
 refine Ai.of_T [(0,_),(1,_)] func278 rfl ntmps278 sM rfl fun w0 hs=>?_
 have hT0:=hT
 refine Wt 2 [] hs rfl<|O_s (Dw hs rfl (cs:=(List.map Af a)) rfl fun b2 _ hs =>O_s (Dw hs rfl (cs:=(List.map Af b)) rfl fun b3 _ hs =>Wp 3 [0] hs rfl<|Bc [0,1,2,3,4,5] hs kR ?_))
 replace hs:=hs.drew
 refine Xt 0 hs rfl (Yk 1 rfl (by rw [List.length_map,ha])<|Xt 2 hs rfl (Yk 0 rfl (by rw [List.length_map,hb]) ?_))
 have hle:=hs.le
 refine Xo 1 rfl (Sc (Sk ha hwa hT hx) hs rfl fun v1 G' H' _ hR hG6 hs=>?_)
 obtain ⟨rfl,rfl⟩:=hR
 replace hs:=hs.n rfl
 replace hT:=hT.mono hG6
 refine Am hs hle hG6 (lSr _) ?_
 have hle:=hs.le
 refine Xo 3 rfl (Sc (Sk hb hwb hT hy) hs rfl fun v2 G' H' _ hR hG8 hs=>?_)
 obtain ⟨rfl,rfl⟩:=hR
 replace hs:=hs.n rfl
 refine Am hs hle hG8 (lSr _)<|Xt 4 hs rfl (Fc (c:=(x.toNat:Int)-(y.toNat:Int)) rfl rfl oM oM<|Xr [5] [] hs rfl<|Xe (Zk [4] rfl<|Ah<|Zz results278 rfl ?_))
 exact ⟨_,[],hs.done,rfl,rfl⟩
theorem ins2_ok {G:Ghost} {bq cq p0 p1 p2 p3 q0 q1 q2 q3:Nat} {x y:UInt8} (hwp:∀ w∈[p0,p1,p2,p3],w<W64) (hwq:∀ w∈[q0,q1,q2,q3],w<W64) (hT:Tab G) (hx:(Bu [p0,p1,p2,p3])[0]?=some x) (hy:(Bu [q0,q1,q2,q3])[0]?=some y) (hlt:y.toNat<x.toNat) :
  Ai prog 325 [Vs bq 2 cq,Vi 0,Vi 2,.func (.func 278) #[] #[]] G [.row 127 4 (Vs bq 2 cq) 2 [Af p0,Af p1,Af p2,Af p3,Af q0,Af q1,Af q2,Af q3]] fun r _ H'=>H'=[.row 127 4 (Vs bq 2 cq) 2 [Af q0,Af q1,Af q2,Af q3,Af p0,Af p1,Af p2,Af p3]]:=by
 have hx1:=x.toNat_lt
 have hy1:=y.toNat_lt
 refine Ai.of_T [(0,_),(1,_),(2,_),(3,_)] func325 rfl ntmps325 sM rfl fun w0 hs=>?_
 have hT0:=hT
 refine Wt 3 [] hs rfl<|Zy hs (Eb (c:=(1)) rfl rfl dC dC<|Wp 2 [0] hs rfl<|Dp (Ej 2 (L:=[(0,_),(1,_),(2,_),(3,_),(8,_)]) ⟨rfl,rfl,rfl,rfl,rfl,trivial⟩ (Gn<|Wt 16 [0,0] hs rfl<|Dp (Ej 2 (L:=[(0,_),(1,_),(2,_),(3,_),(8,_),(9,_)]) ⟨rfl,rfl,rfl,rfl,rfl,rfl,trivial⟩ (Gn<|Wt 2 [] hs rfl<|Bc [0,1,2,3,4,5,6,7,8,9,10,11,12,13,14,15,16] hs kR ?_)))))
 replace hs:=hs.drew
 refine Xr [0,1,2,3,4,5,6] [] hs rfl<|Xt 7 hs rfl (Cy 1 underlying248 sizeOf127 rfl rfl rfl oM<|Xt 8 hs rfl (He (i:=1) (vs:=[Af q0,Af q1,Af q2,Af q3]) 0 rfl isAgg127 sizeOf127 rfl oM rfl rfl<|Xr [9,10] [] hs rfl<|Xt 11 hs rfl (Fc (c:=(0)) rfl rfl dC dC<|Xt 12 hs rfl (Cy 0 underlying248 sizeOf127 rfl rfl rfl oM<|Xt 13 hs rfl (He (i:=0) (vs:=[Af p0,Af p1,Af p2,Af p3]) 0 rfl isAgg127 sizeOf127 rfl oM rfl rfl ?_)))))
 have hle:=hs.le
 refine Xo 14 rfl (Cb (args:=[_,_]) (lb:=[]) (H1:=[]) hs rfl rfl func278 rfl kR (cmpc_ok (a:=[q0,q1,q2,q3]) (b:=[p0,p1,p2,p3]) rfl rfl hwq hwp hT hy hx) fun v1 G' H' _ hR hG32 hs=>?_)
 obtain ⟨rfl,rfl⟩:=hR
 replace hs:=hs.n rfl
 refine Am hs hle hG32 (lSr _)<|Xt 15 hs rfl (Im rfl rfl rfl oM<|Xr [16] [] hs rfl<|Xe (Zk [0,1,2,3,8,9,34] rfl<|Wu 4 [] hs rfl<|Bc [0,1,5,6,7,8,9,10,11,12,13,14] hs kR ?_))
 replace hs:=hs.drew
 refine Ky 2 rfl kR rfl (Tu rfl<|Ky 3 rfl kR rfl (Tu rfl<|Ky 4 rfl kR rfl (Fc (c:=(0)) rfl rfl dC dC<|Xr [0,1,5,6] [] hs rfl<|Xt 7 hs rfl (Fc (c:=(0)) rfl rfl dC dC<|Xt 8 hs rfl (Cy 0 underlying248 sizeOf127 rfl rfl rfl oM<|Xt 9 hs rfl (He (i:=0) (vs:=[Af p0,Af p1,Af p2,Af p3]) 0 rfl isAgg127 sizeOf127 rfl oM rfl rfl<|Xr [10,11] [] hs rfl<|Xt 12 hs rfl (Cy 1 underlying248 sizeOf127 rfl rfl rfl oM<|Xt 13 hs rfl (He (i:=1) (vs:=[Af q0,Af q1,Af q2,Af q3]) 0 rfl isAgg127 sizeOf127 rfl oM rfl rfl<|Xt 14 hs rfl (Cy 1 underlying248 sizeOf127 rfl rfl rfl oM<|Xn 15 rfl (Oa (i:=1) (vs:=[Af p0,Af p1,Af p2,Af p3]) hs sizeOf127 rfl rfl rfl rfl oM fun _ hs =>Xa 16 rfl (S_y hs rfl (Cy 0 underlying248 sizeOf127 rfl rfl rfl oM<|Xn 17 rfl (Oa (i:=0) (vs:=[Af q0,Af q1,Af q2,Af q3]) hs sizeOf127 rfl rfl rfl rfl oM fun _ hs =>Xe (Zk [0,1,2,3,8,9] rfl<|Wu 2 [] hs rfl<|Zy hs (Fc (c:=(0)) rfl rfl dC dC<|Wp 1 [] hs rfl<|Cl ⟨[(0,_),(1,_),(2,_),(3,_),(8,_),(9,_)],⟨rfl,rfl,rfl,rfl,rfl,rfl,trivial⟩,Gn ?_⟩)))))))))))))))
 refine Wt 2 [] hs rfl<|Bc [0,1,2,3,4,5,6,7,8,9,10,11,12,13,14,15,16] hs kR ?_
 replace hs:=hs.drew
 refine Xr [0,1,2,3,4,5,6,7,8,9,10,11,12,13,14,15,16] [] hs rfl<|Xe (Zk [0,1,2,3,8,9,34] rfl<|Wu 2 [] hs rfl<|Wu 2 [] hs rfl<|Zy hs (Eb (c:=(2)) rfl rfl dC dC<|Wp 1 [] hs rfl<|Cl ⟨[(0,_),(1,_),(2,_),(3,_),(8,_)],⟨rfl,rfl,rfl,rfl,rfl,trivial⟩,Gn ?_⟩))
 refine Wt 9 [0] hs rfl ?_
 try dsimp only [Ex.At,Ex.sqs,Ex.sq,Ex.lp,Ex.bk]
 try rw [show Nat.beq _ _=true from Nat.beq_refl _,cond_true]
 refine Ez (vs:=[]) results325 rfl trivial ?_
 try dsimp only [tup]
 exact ⟨_,_,hs,rfl⟩
theorem wO {G:Ghost} :
  Ai prog 126 [.int .u64 2] G [] fun r _ H'=>H'=[]∧∃ z,r=Vi z:=by
 refine Ai.of_T [(0,_)] func126 rfl ntmps126 sM rfl fun w0 hs =>Wt 32 [0,0,0,0] hs rfl<|Zy hs (Dj underlying125 underlying5 (c:=2) rfl dC<|Zy hs (gT 2 underlying9 rfl rfl rfl rfl<|Zy hs (Dj underlying5 underlying3 (c:=2) rfl dC<|Zy hs (Eb (c:=2) rfl rfl dC dC<|Wp 2 [0] hs rfl<|Ah<|Zz results126 rfl ?_))))
 exact ⟨_,[],hs.done,rfl,⟨_,rfl⟩⟩
theorem len_ok {G:Ghost} :
  Ai prog 93 [.int .u64 2] G [] fun r _ H'=>H'=[]∧∃ z,r=Vi z:=by
 refine Ai.of_T [(0,_)] func93 rfl ntmps93 sM rfl fun w0 hs =>Wt 10 [0] hs rfl<|O_s (Sc (wO) hs rfl fun v1 G' H' _ hR hG7 hs=>?_)
 obtain ⟨rfl,z,rfl⟩:=hR
 replace hs:=hs.n rfl
 refine Wp 2 [0] hs rfl<|Ah<|Zz results93 rfl ?_
 exact ⟨_,[],hs.done,rfl,⟨_,rfl⟩⟩
theorem pdq2_ok {G:Ghost} {z:Int} {bq cq p0 p1 p2 p3 q0 q1 q2 q3:Nat} {x y:UInt8} (hwp:∀ w∈[p0,p1,p2,p3],w<W64) (hwq:∀ w∈[q0,q1,q2,q3],w<W64) (hT:Tab G) (hx:(Bu [p0,p1,p2,p3])[0]?=some x) (hy:(Bu [q0,q1,q2,q3])[0]?=some y) (hlt:y.toNat<x.toNat) :
  Ai prog 308 [Vs bq 2 cq,Vi 0,Vi 2,Vi z,.func (.func 278) #[] #[]] G [.row 127 4 (Vs bq 2 cq) 2 [Af p0,Af p1,Af p2,Af p3,Af q0,Af q1,Af q2,Af q3]] fun r _ H'=>H'=[.row 127 4 (Vs bq 2 cq) 2 [Af q0,Af q1,Af q2,Af q3,Af p0,Af p1,Af p2,Af p3]]:=by
 refine Ai.of_T [(0,_),(1,_),(2,_),(3,_),(4,_)] func308 rfl ntmps308 sM rfl fun w0 hs=>?_
 have hT0:=hT
 refine Wt 8 [0,0] hs rfl<|Dp (Ej 1 (L:=[(0,_),(1,_),(2,_),(3,_),(4,_),(10,_),(11,_)]) ⟨rfl,rfl,rfl,rfl,rfl,rfl,rfl,trivial⟩ (Gn<|Wt 5 [] hs rfl<|Zy hs (Fc (c:=(2)) rfl rfl dC dC<|Wp 15 [0,0] hs rfl<|O_s (Sc (ins2_ok hwp hwq hT hx hy hlt) hs rfl fun v1 G' H' _ hR hG30 hs=>?_))))
 obtain rfl:=hR
 replace hs:=hs.n rfl
 refine Wp 1 [0] hs rfl<|Ah ?_
 refine Bi (vs:=[]) results308 rfl trivial ?_
 try dsimp only [tup]
 exact ⟨_,_,hs,rfl⟩
theorem wP {G:Ghost} {bq cq p0 p1 p2 p3 q0 q1 q2 q3:Nat} {x y:UInt8} (hwp:∀ w∈[p0,p1,p2,p3],w<W64) (hwq:∀ w∈[q0,q1,q2,q3],w<W64) (hT:Tab G) (hx:(Bu [p0,p1,p2,p3])[0]?=some x) (hy:(Bu [q0,q1,q2,q3])[0]?=some y) (hlt:y.toNat<x.toNat) :
  Ai prog 277 [Vs bq 2 cq,.func (.func 278) #[] #[]] G [.row 127 4 (Vs bq 2 cq) 2 [Af p0,Af p1,Af p2,Af p3,Af q0,Af q1,Af q2,Af q3]] fun r _ H'=>H'=[.row 127 4 (Vs bq 2 cq) 2 [Af q0,Af q1,Af q2,Af q3,Af p0,Af p1,Af p2,Af p3]]:=by
 refine Ai.of_T [(0,_),(1,_)] func277 rfl ntmps277 sM rfl fun w0 hs=>?_
 have hT0:=hT
 refine Wt 10 [0] hs rfl<|Zy hs (Dj underlying3 underlying162 (c:=2) rfl dC<|O_s (Sc (len_ok) hs rfl fun v1 G' H' _ hR hG11 hs=>?_))
 obtain ⟨rfl,z,rfl⟩:=hR
 replace hs:=hs.n rfl
 replace hT:=hT.mono hG11
 refine Wp 1 [] hs rfl<|O_s (Sc (pdq2_ok hwp hwq hT hx hy hlt) hs rfl fun v2 G' H' _ hR hG13 hs=>?_)
 obtain rfl:=hR
 replace hs:=hs.n rfl
 refine Cl (Ez (vs:=[]) results277 rfl trivial ?_)
 try dsimp only [tup]
 exact ⟨_,_,hs,rfl⟩
theorem jB {G:Ghost} {v:Value} {a b c d:Nat} (h:Sl G v 4 1 [Af a,Af b,Af c,Af d]) (hw:∀ w∈[a,b,c,d],w<W64):Pt G v [[a,b,c,d]] :=
  ⟨[[Af a,Af b,Af c,Af d]],h,⟨⟨rfl,rfl,hw⟩,trivial⟩,by intro c hc;rw [List.mem_singleton.1 hc];rfl⟩
theorem wQ {G:Ghost} {v:Value} {a b c d x y z t:Nat} (h:Sl G v 4 2 [Af a,Af b,Af c,Af d,Af x,Af y,Af z,Af t]) (hw:∀ w∈[a,b,c,d],w<W64) (hw2:∀ w∈[x,y,z,t],w<W64):Pt G v [[a,b,c,d],[x,y,z,t]] :=
  ⟨[[Af a,Af b,Af c,Af d],[Af x,Af y,Af z,Af t]],h,⟨⟨rfl,rfl,hw⟩,⟨rfl,rfl,hw2⟩,trivial⟩,by intro c hc;rcases List.mem_cons.1 hc with rfl | hc;rfl;rw [List.mem_singleton.1 hc];rfl⟩
theorem jC {a b c d:Nat}:∀ y∈[Af a,Af b,Af c,Af d],y.oneCell'=true:=by
  intro y hy
  simp only [List.mem_cons,List.not_mem_nil,or_false] at hy
  rcases hy with rfl | rfl | rfl | rfl<;>rfl
theorem pA:(Je [0,0,0,0]).length=4∧∀ w∈Je [0,0,0,0],w<W64:=by decide
theorem wR {G:Ghost} {v:Value} {c0 c1 c2 c3 p0 p1 p2 p3 q0 q1 q2 q3:Nat} {x y:UInt8} (hl:Pt G v [[c0,c1,c2,c3]]) (hp:Gz (Je [0,0,0,0]) [c0,c1,c2,c3]=[p0,p1,p2,p3]) (hq:Lc (Je [0,0,0,0]) [c0,c1,c2,c3]=[q0,q1,q2,q3]) (hp0:[p0,p1,p2,p3]≠[0,0,0,0]) (hq0:[q0,q1,q2,q3]≠[0,0,0,0]) (hwp:∀ w∈[p0,p1,p2,p3],w<W64) (hwq:∀ w∈[q0,q1,q2,q3],w<W64) (hT:Tab G) (hx:(Bu [p0,p1,p2,p3])[0]?=some x) (hy:(Bu [q0,q1,q2,q3])[0]?=some y) (hlt:y.toNat<x.toNat) :
  Ai prog 243 [v] G [] fun r G' H'=>H'=[]∧Pt G' r [[q0,q1,q2,q3],[p0,p1,p2,p3]]:=by
 obtain ⟨Ac,cc,rfl⟩:=Be.slice hl
 change Pt _ (.slice Ac 1 cc) _ at hl
 show Ai prog 243 [.slice Ac 1 cc] G [] _
 obtain ⟨f0,f1,f2,f3,hF⟩:=Mj pA.1
 have hwF:=pA.2
 rw [hF] at hp hq hwF
 refine Ai.of_T [(0,_)] func243 rfl ntmps243 sM rfl fun w0 hs=>?_
 have hl0:=hl
 have hT0:=hT
 refine Wt 6 [0] hs rfl<|Zy hs (Co underlying127 sizeOf125 zeroValue127 rfl rfl (cs:=[_,_,_,_]) rfl<|O_s (Sc (vU (c:=[0,0,0,0]) rfl) hs rfl fun v1 G' H' _ hR hG12 hs=>?_))
 obtain ⟨rfl,rfl⟩:=hR
 replace hs:=hs.n rfl
 replace hl:=hl.mono hG12
 replace hT:=hT.mono hG12
 rw [hF]
 refine O_s (Se hs zeroValue127 rfl fun v2 _ hs _=>?_)
 have hsN:=hs.fixRow noM
 clear hs
 obtain ⟨_,hG13,hl13,hs⟩:=hsN
 replace hl:=hl.mono hG13
 replace hT:=hT.mono hG13
 refine Wp 2 [0] hs rfl ?_
 have hL13:=jB hl13 hwF
 obtain ⟨A13,c13,rfl,_⟩:=id hl13
 refine Wu 7 [0] hs rfl<|Dp (Ej 2 (L:=[(3,_),(14,_),(15,_),(16,_)]) ⟨rfl,rfl,rfl,rfl,trivial⟩ (Gn<|Wt 11 [0] hs rfl<|Zy hs (Bv hl 0 underlying248 sizeOf127 rfl rfl rfl sM fun p18 c18 hp18 hc18 hR18 =>Zy hs (Cu (vs:=List.map Af [c0,c1,c2,c3]) isAgg127 sizeOf127 rfl (hR18.1▸hp18) rfl<|O_s (Bd hs zeroValue127 (cs:=(List.map Af [0,0,0,0])) rfl fun b5 _ hs =>O_n (Sw hs rfl (vs:=(List.map Af [c0,c1,c2,c3])) Kn Kn (Df _) fun _ hs=>Wp 5 [0,0] hs rfl ?_))))))
 have hs:=hs.nilRow 127 4
 refine Wu 7 [0] hs rfl<|Dp (Ej 2 (L:=[(5,_),(6,_),(14,_),(15,_),(16,_),(20,_),(21,_),(22,_)]) ⟨rfl,rfl,rfl,rfl,rfl,rfl,rfl,rfl,trivial⟩ (Gn<|Wt 11 [0] hs rfl<|Zy hs (Bv hL13 0 underlying248 sizeOf127 rfl rfl rfl sM fun p24 c24 hp24 hc24 hR24 =>Zy hs (Cu (vs:=List.map Af [f0,f1,f2,f3]) isAgg127 sizeOf127 rfl (hR24.1▸hp24) rfl<|O_s (Bd hs zeroValue127 (cs:=(List.map Af [0,0,0,0])) rfl fun b8 _ hs =>O_n (Sw hs rfl (vs:=(List.map Af [f0,f1,f2,f3])) Kn Kn (Df _) fun _ hs=>Wp 2 [0] hs rfl<|Bc [0,1,2,3,4,5,6,7] hs kR ?_))))))
 replace hs:=hs.drew
 refine Xt 0 hs rfl (Yk 0 rfl (by rw [List.length_map,show [f0,f1,f2,f3].length=4 from rfl])<|Xt 1 hs rfl (Yk 2 rfl Z19<|Xt 3 hs rfl (Yk 0 rfl (by rw [List.length_map,show [f0,f1,f2,f3].length=4 from rfl])<|Xt 4 hs rfl (Yk 2 rfl Z19<|Xr [7] [] hs rfl ?_))))
 have hle:=hs.le
 refine Xo 2 rfl (Sc (iN (a:=[f0,f1,f2,f3]) (b:=[c0,c1,c2,c3]) rfl rfl) hs rfl fun v3 G' H' _ hR hG28 hs=>?_)
 obtain ⟨rfl,rfl⟩:=hR
 replace hs:=hs.n rfl
 replace hT:=hT.mono hG28
 rw [hp]
 refine Am hs hle hG28 (lSr _) ?_
 have hle:=hs.le
 refine Xo 5 rfl (Sc (wN (a:=[f0,f1,f2,f3]) (b:=[c0,c1,c2,c3]) rfl rfl) hs rfl fun v4 G' H' _ hR hG31 hs=>?_)
 obtain ⟨rfl,rfl⟩:=hR
 replace hs:=hs.n rfl
 replace hT:=hT.mono hG31
 rw [hq]
 refine Am hs hle hG31 (lSr _)<|Xt 6 hs rfl (Co underlying327 sizeOf127 zeroValue327 rfl rfl (cs:=[_,_,_,_,_,_,_,_]) rfl<|Xe (Zk [5,6,14,15,16,20,21,22,32,33] rfl<|Dp (Ej 3 (L:=[(5,_),(6,_),(14,_),(15,_),(16,_),(20,_),(21,_),(22,_),(32,_),(33,_)]) ⟨rfl,rfl,rfl,rfl,rfl,rfl,rfl,rfl,rfl,rfl,trivial⟩ (Gn<|Wt 11 [0] hs rfl<|Zy hs (iF (ws:=List.map Af [p0,p1,p2,p3]) 0 underlying327 isAgg127 sizeOf127 rfl rfl rfl dC rfl<|O_s (Bd hs zeroValue127 (cs:=(List.map Af [0,0,0,0])) rfl fun b10 _ hs =>O_n (Sw hs rfl (vs:=(List.map Af [p0,p1,p2,p3])) Kn Kn (Df _) fun _ hs=>Wp 3 [0] hs rfl<|Zy hs (Yk 0 rfl Z20<|Zy hs (Co underlying127 sizeOf125 zeroValue127 rfl rfl (cs:=[_,_,_,_]) rfl<|Zy hs (Rp (a:=[p0,p1,p2,p3]) (b:=[0,0,0,0]) underlying127 sizeOf125 isAgg125 underlying125 rfl rfl rfl rfl rfl hwp dC (fun _=>?_) (fun h=>absurd h hp0)))))))))))
 refine Wp 4 [0] hs rfl<|Zy hs (Yk 0 rfl Z20<|O_s (Se hs zeroValue127 rfl fun v5 _ hs _=>?_))
 obtain ⟨_,hG41,hl41,hs⟩:=hs.fixRow noM
 replace hT:=hT.mono hG41
 refine O_s (Bf hs.f2 underlying248 vX rfl dC rfl rfl (hl41) (jC) dC dC fun v6 _ hs =>Wp 3 [0] hs rfl<|Zy hs (Eb (c:=(1)) rfl rfl dC dC<|Wp 1 [] hs rfl<|Cl ⟨[(5,_),(6,_),(14,_),(15,_),(16,_),(20,_),(21,_),(22,_),(32,_),(33,_)],⟨rfl,rfl,rfl,rfl,rfl,rfl,rfl,rfl,rfl,rfl,trivial⟩,Gn ?_⟩))
 refine Wt 11 [0] hs rfl<|Zy hs (iF (ws:=List.map Af [q0,q1,q2,q3]) 1 underlying327 isAgg127 sizeOf127 rfl rfl rfl dC rfl<|O_s (Bd hs zeroValue127 (cs:=(List.map Af [0,0,0,0])) rfl fun b10 _ hs =>O_n (Sw hs rfl (vs:=(List.map Af [q0,q1,q2,q3])) Kn Kn (Df _) fun _ hs=>Wp 3 [11,5,6,10,14,15,16,20,21,22,32,33] hs rfl<|Zy hs (Yk 0 rfl Z21<|Zy hs (Co underlying127 sizeOf125 zeroValue127 rfl rfl (cs:=[_,_,_,_]) rfl<|Zy hs (Rp (a:=[q0,q1,q2,q3]) (b:=[0,0,0,0]) underlying127 sizeOf125 isAgg125 underlying125 rfl rfl rfl rfl rfl hwq dC (fun _=>?_) (fun h=>absurd h hq0)))))))
 refine Wp 4 [0] hs rfl<|Zy hs (Yk 0 rfl Z21<|O_s (Se hs zeroValue127 rfl fun v7 _ hs _=>?_))
 obtain ⟨_,hG41,hl41,hs⟩:=hs.fixRow noM
 replace hT:=hT.mono hG41
 refine O_s (Bf hs.f1 underlying248 vX rfl dC rfl rfl (hl41) (jC) dC dC fun v8 _ hs =>Wp 3 [0] hs rfl<|Zy hs (Eb (c:=(2)) rfl rfl dC dC<|Wp 1 [] hs rfl<|Cl ⟨[(5,_),(6,_),(14,_),(15,_),(16,_),(20,_),(21,_),(22,_),(32,_),(33,_)],⟨rfl,rfl,rfl,rfl,rfl,rfl,rfl,rfl,rfl,rfl,trivial⟩,Gn ?_⟩))
 refine Wt 7 [0] hs rfl ?_
 refine Zr<|Zy hs (Eb (c:=(1)) rfl rfl dC dC<|Wp 1 [] hs rfl<|Cl ⟨[(5,_),(6,_),(14,_),(15,_),(16,_),(20,_),(21,_),(22,_)],⟨rfl,rfl,rfl,rfl,rfl,rfl,rfl,rfl,trivial⟩,Gn ?_⟩)
 refine Wt 7 [9,5,6,14,15,16,20,21,22,23] hs rfl<|Wu 5 [0] hs rfl<|Zy hs (Eb (c:=(1)) rfl rfl dC dC<|Wp 1 [] hs rfl<|Cl ⟨[(3,_),(14,_),(15,_),(16,_)],⟨rfl,rfl,rfl,rfl,trivial⟩,Gn ?_⟩)
 refine Wt 7 [0] hs rfl ?_
 obtain ⟨bq,cq,hzbq,_⟩:=hs.rowForm 0 rfl oM
 subst hzbq
 refine Wu 3 [] hs rfl<|O_s (Sc (wP hwp hwq hT hx hy hlt) hs rfl fun v9 G' H' _ hR hG48 hs=>?_)
 obtain rfl:=hR
 replace hs:=hs.n rfl
 refine Wp 6 [0,0] hs rfl<|Ah<|Zz results243 rfl ?_
 obtain ⟨G9,hG9,hf,hs⟩:=hs.fixRow noM
 exact ⟨_,[],hs.done,rfl,wQ hf hwq hwp⟩
def Sm (k:Nat):List Nat:=List.range k++List.replicate (256-k) 0
theorem Ul {k:Nat} (h:k≤256):(Sm k).length=256:=by unfold Sm;rw [List.length_append,List.length_range,List.length_replicate];omega
theorem mA {k:Nat} (h:k<256):(Sm k).set k k=Sm (k+1):=by
  unfold Sm
  rw [List.set_append_right _ _ (by rw [List.length_range];exact Nat.le_refl k),List.length_range,Nat.sub_self,show 256-k=(256-(k+1))+1 from by omega,List.replicate_succ,List.set_cons_zero,List.range_succ,List.append_assoc]
  rfl
theorem mB:Sm 256=List.range 256:=by unfold Sm;rw [Nat.sub_self,List.replicate_zero,List.append_nil]
def aO (j:Nat):List Nat:=List.replicate j 1++List.replicate (256-j) 0
theorem mC {j:Nat} (h:j<256):(aO j).set j 1=aO (j+1):=by
  unfold aO
  rw [List.set_append_right _ _ (by rw [List.length_replicate];exact Nat.le_refl j),List.length_replicate,Nat.sub_self,show 256-j=(256-(j+1))+1 from by omega,List.replicate_succ,List.set_cons_zero,List.replicate_succ',List.append_assoc]
  rfl
theorem jD (s:Nat):((List.range (s+1)).map fun i=>decide (i=0)).map Bb=((List.range s).map fun i=>decide (i=0)).map Bb++[Value.bool (decide (s=0))]:=by rw [List.range_succ,List.map_append,List.map_append];rfl
theorem mD:aO 256=List.replicate 256 1:=by unfold aO;rw [Nat.sub_self,List.replicate_zero,List.append_nil]
theorem word_ok {G:Ghost} {D:My} (hok:Io.ok) (hD:Eu Io=some D) :
  Ai prog 224 [Vn] G [] fun r G' H'=>H'=[]∧∃ vd,r=.tuple #[vd,Vi 0]∧Oh G' vd D:=by
 refine Ai.of_T [(0,_)] func224 rfl ntmps224 sM rfl fun w0 hs =>Wt 2 [] hs rfl<|O_s (Sa hs zeroValue250 rfl fun b2 _ hs=>Wp 18 [0,0,0] hs rfl<|Zy hs (Ba zeroValue300 rfl (pl:=[(0,256),(256,1),(257,1),(258,1)]) kR rfl (cs:=(Cg (List.replicate 256 0) 256 (Vn) (Vn))) kR<|O_s (Bd hs zeroValue300 (cs:=(Cg (List.replicate 256 0) 0 (Vn) (Vn))) rfl fun b5 _ hs =>O_n (Ro hs sizeOf300 rfl rfl (vs:=_) Z9 Z9 (Gi rfl rfl) fun _ hs =>Wp 6 [0,0] hs rfl ?_))))
 have hs:=hs.f1.f1
 refine Zl [0,2,4,5,16] (fun m E w=>∃ (k:Nat) (G2:Ghost),k≤256∧m=256-k∧E=⟨[],[(0,Vn),(2,Vp b2),(4,Vi 0),(5,Vp b5),(16,Vi (k:Int))]⟩∧St ⟨w0,G,Bl []⟩ G2 [.blk b5 300 (Cg (Sm k) 256 (Vn) (Vn)),.blk b2 250 [Vn,Vn,Vn]] w) rfl (⟨0,_,by omega,rfl,rfl,hs⟩) fun m E w hI=>?_
 obtain ⟨k,G2,hk,rfl,rfl,hs⟩:=hI
 refine Wt 2 [] hs rfl<|Zy hs (Yc rfl (fun h17=>?_) fun h17=>?_)
 ·
  refine Wp 15 [0,0,0] hs rfl<|Zy hs (Bq k underlying298 sizeOf3 rfl rfl rfl oM<|O_n (Hs hs sizeOf3 rfl rfl rfl (by rw [Bp (Ul oM)];omega) (cs':=(Cg (Sm (k+1)) 256 (Vn) (Vn))) (by rw [← mA oM];exact dI (Ul oM) oM) fun _ hs =>Wp 2 [0] hs rfl<|Zy hs (Ya (s:=((k+1:Nat):Int)) rfl<|Wp 1 [] hs rfl ?_)))
  have hs:=hs.f1.f1
  refine Zx [0,2,4,5,16] rfl ⟨k+1,_,by omega,rfl,rfl,hs⟩
 refine Wp 4 [0] hs rfl<|Wu 4 [] hs rfl<|Zy hs (Eb (c:=(2)) rfl rfl dC dC<|Wp 2 [0] hs rfl ?_)
 obtain rfl:k=256:=by omega
 rw [mB] at hs
 have hs:=hs.nilRow 4 1
 have hs:=hs.nilRow 33 1
 have hs:=hs.f3.f2.f2.f3
 refine Zl [0,2,4,5,25,26] (fun m E w=>∃ (s:Nat) (vs:List Value) (vn va:Value) (G2:Ghost),s≤2∧vs.length=s∧En G2 vs (List.replicate s (List.replicate 256 1))∧m=2-s∧E=⟨[],[(0,Vn),(2,Vp b2),(4,Vi 0),(5,Vp b5),(25,Vi ((2))),(26,Vi (s:Int))]⟩∧St ⟨w0,G,Bl []⟩ G2 [.blk b5 300 (Cg (List.range 256) 256 vn va),.row 33 1 (vn) s vs,.row 4 1 (va) s (((List.range s).map fun i=>decide (i=0)).map Bb),.blk b2 250 [Vn,Vn,Vn]] w) rfl (⟨0,[],_,_,_,by omega,rfl,trivial,rfl,rfl,hs⟩) fun m E w hI=>?_
 obtain ⟨s,vs,vn,va,G2,hs2,hvl,hrs,rfl,rfl,hs⟩:=hI
 refine Wt 2 [] hs rfl<|Zy hs (Yc rfl (fun h27=>?_) fun h27=>?_)
 ·
  refine Wp 13 [0,0] hs rfl<|O_s (Fx (n:=256) (m:=256) hs underlying33 Lb rfl rfl rfl oM oM oM fun b29 _ hs =>Wp 9 [0,0] hs rfl ?_)
  have hs:=hs.f4.f4.f4.f4.f4
  rw [show List.replicate 256 (Value.int .i64 0)=(aO 0).map Cm from Sh 256] at hs
  refine Zl [0,2,4,5,7,8,25,26,31,32] (fun m E w=>∃ (j:Nat) (G2:Ghost),j≤256∧En G2 vs (List.replicate s (List.replicate 256 1))∧m=256-j∧E=⟨[],[(0,Vn),(2,Vp b2),(4,Vi 0),(5,Vp b5),(7,Vi (s:Int)),(8,Vs b29 256 256),(25,Vi ((2))),(26,Vi (s:Int)),(31,Vi 256),(32,Vi (j:Int))]⟩∧St ⟨w0,G,Bl []⟩ G2 [.row 3 1 (Vs b29 256 256) 256 ((aO j).map Cm),.blk b5 300 (Cg (List.range 256) 256 vn va),.row 33 1 (vn) s vs,.row 4 1 (va) s (((List.range s).map fun i=>decide (i=0)).map Bb),.blk b2 250 [Vn,Vn,Vn]] w) rfl (⟨0,_,by omega,hrs,rfl,rfl,hs⟩) fun m E w hI=>?_
  obtain ⟨j,G2,hj,hrs,rfl,rfl,hs⟩:=hI
  refine Wt 2 [] hs rfl<|Zy hs (Yc rfl (fun h33=>?_) fun h33=>?_)
  ·
   refine Wp 15 [0,0] hs rfl<|Zy hs (Ya (s:=1) rfl<|Zy hs (Bj (j) underlying33 sizeOf3 rfl rfl rfl oM<|O_n (Ct hs sizeOf3 rfl rfl rfl oM fun _ hs =>Wp 2 [0] hs rfl<|Zy hs (Ya (s:=((j+1:Nat):Int)) rfl<|Wp 1 [] hs rfl ?_))))
   have hs:=hs.f4.f4.f4.f4.f4
   refine Zx [0,2,4,5,7,8,25,26,31,32] rfl ⟨j+1,_,by omega,hrs,rfl,rfl,by rw [← mC oM,List.map_set];exact hs⟩
  refine Wp 4 [0] hs rfl<|Wu 5 [] hs rfl<|Zy hs (Di rfl rfl rfl oM<|Wp 3 [0] hs rfl ?_)
  obtain rfl:j=256:=by omega
  rw [mD] at hs
  obtain ⟨_,hG_hrow,hrow,hs⟩:=hs.fixRow noM
  replace hrs:=hrs.mono hG_hrow
  replace hrow:Cr _ (Vs b29 256 256) (List.replicate 256 1):=hrow
  refine Wu 3 [257] hs rfl<|Zy hs (Db 0 isAgg41 rfl rfl (Jj List.length_range)<|Wp 1 [] hs rfl<|O_s (Ca hs underlying41 sizeOf33 zeroValue33 rfl rfl dC dC rfl (cs:=[_]) rfl rfl fun v1 _ hs _=>?_))
  obtain ⟨_,hG55,hl55,hs⟩:=hs.fixRow noM
  replace hrs:=hrs.mono hG55
  replace hrow:=hrow.mono hG55
  refine O_s (Bf hs.f1 underlying41 eS rfl dC rfl rfl (hl55) (Fj rfl) oM oM fun v2 _ hs =>Wp 1 [257] hs rfl<|O_n (Hs hs.f1 sizeOf41 rfl rfl (hs.f1.rowOne 1 rfl) (by rw [Bp List.length_range];omega) (cs':=(Cg (List.range 256) 256 v2 va)) (dL List.length_range) fun _ hs =>Wp 3 [0,258] hs rfl<|Zy hs (Db 0 isAgg64 rfl rfl (Uh List.length_range)<|Wp 2 [] hs rfl<|Zy hs (Yc rfl (fun h62=>?_) fun h62=>?_))))
  ·
   refine O_s (Ca hs underlying64 sizeOf4 zeroValue4 rfl rfl dC dC rfl (cs:=[_]) rfl rfl fun v3 _ hs _=>?_)
   obtain ⟨_,hG63,hl63,hs⟩:=hs.fixRow noM
   replace hrs:=hrs.mono hG63
   replace hrow:=hrow.mono hG63
   refine O_s (Bf hs.f2 underlying64 oN rfl dC rfl rfl (hl63) (Fj rfl) oM oM fun v4 _ hs =>Wp 1 [258] hs rfl<|O_n (Hs hs.f1 sizeOf64 rfl rfl (hs.f1.rowOne 1 rfl) (by rw [Bp List.length_range];omega) (cs':=(Cg (List.range 256) 256 v2 v4)) (Uk List.length_range) fun _ hs =>Wp 2 [6,0,2,4,5,25,26] hs rfl<|Zy hs (Ya (s:=((s+1:Nat):Int)) rfl<|Wp 1 [] hs rfl ?_)))
   have hs:=hs.f3.f2.f3.f3
   refine Zx [0,2,4,5,25,26] rfl ⟨s+1,vs++[Vs b29 256 256],_,_,_,by omega,by rw [List.length_append,hvl];rfl,by rw [List.replicate_succ'];exact En.snoc hrs hrow,rfl,rfl,Bz (hs.weak hs.le (gLr _) (lSa [_,_,_,_] _)) (by rw [jD,decide_eq_true (show s=0 by omega)])⟩
  refine O_s (Ca hs underlying64 sizeOf4 zeroValue4 rfl rfl dC dC rfl (cs:=[_]) rfl rfl fun v5 _ hs _=>?_)
  obtain ⟨_,hG63,hl63,hs⟩:=hs.fixRow noM
  replace hrs:=hrs.mono hG63
  replace hrow:=hrow.mono hG63
  refine O_s (Bf hs.f2 underlying64 oN rfl dC rfl rfl (hl63) (Fj rfl) oM oM fun v6 _ hs =>Wp 1 [258] hs rfl<|O_n (Hs hs.f1 sizeOf64 rfl rfl (hs.f1.rowOne 1 rfl) (by rw [Bp List.length_range];omega) (cs':=(Cg (List.range 256) 256 v2 v6)) (Uk List.length_range) fun _ hs =>Wp 2 [6,0,2,4,5,25,26] hs rfl<|Zy hs (Ya (s:=((s+1:Nat):Int)) rfl<|Wp 1 [] hs rfl ?_)))
  have hs:=hs.f3.f2.f3.f3
  refine Zx [0,2,4,5,25,26] rfl ⟨s+1,vs++[Vs b29 256 256],_,_,_,by omega,by rw [List.length_append,hvl];rfl,by rw [List.replicate_succ'];exact En.snoc hrs hrow,rfl,rfl,Bz (hs.weak hs.le (gLr _) (lSa [_,_,_,_] _)) (by rw [jD,decide_eq_false (show ¬ s=0 by omega)])⟩
 refine Wp 4 [0] hs rfl ?_
 obtain rfl:s=2:=by omega
 have hs:=hs.f1
 obtain ⟨_,hG_hfn,hfn,hs⟩:=hs.fixRow noM
 replace hrs:=hrs.mono hG_hfn
 have hs:=hs.f1
 obtain ⟨_,hG_hfa,hfa,hs⟩:=hs.fixRow noM
 replace hrs:=hrs.mono hG_hfa
 replace hfn:=hfn.mono hG_hfa
 obtain ⟨Fn,fn,rfl,_⟩:=id hfn
 obtain ⟨Fa,fa,rfl,_⟩:=id hfa
 have hnx:LN _ _ Io.next:=En.fin hfn rfl hrs
 have hac:Hq _ _ Io.acc:=hfa
 refine Wu 2 [] hs rfl<|Zy hs (Yk 0 rfl (Bp List.length_range)<|O_s (Sc (Lq (t:=Io) ⟨_,_,rfl,List.length_range,hnx,hac⟩ hok hD) hs rfl fun v7 G' H' _ hR hG68 hs=>?_))
 obtain ⟨rfl,hz⟩:=hR
 replace hs:=hs.n rfl
 obtain ⟨zc,zn,za,rfl,hzC,hzN,hzA⟩:=hz
 obtain ⟨Cz,cz,rfl⟩:=Be.slice hzC
 obtain ⟨Nz,nz,rfl⟩:=Be.slice hzN
 obtain ⟨Az,az,rfl,_⟩:=id hzA
 refine O_n (Es hs.f1 sizeOf250 rfl rfl (vs:=[_,_,_]) rfl (rfl) sM (cs':=[_,_,_]) rfl fun _ hs =>Wp 2 [0] hs rfl<|Ah ?_)
 have hr:=hs
 refine Bi (vs:=[_,_]) results224 rfl ⟨Bk 0 hr isAgg250 sizeOf250 rfl (cs:=[_,_,_]) rfl rfl,rfl,trivial⟩ ?_
 try dsimp only [tup]
 exact ⟨_,[],hs.done,rfl,_,rfl,_,_,_,rfl,hzC,hzN,hzA⟩
theorem Sl.nil_of {G:Ghost} {n c k m:Nat} {xs:List Value} (h:Sl G (.slice none n c) k m xs):m=0:=by
  obtain ⟨A,c',he,_,_,_,hA⟩:=h
  injection he with h1 h2 h3
  subst h1
  rcases Nat.eq_zero_or_pos m with h0 | h0
  · exact h0
  · obtain ⟨a,ha,_⟩:=hA h0;cases ha
theorem Sn (l:List Nat):∀ y∈l.map Cm,y.oneCell'=true:=by
  intro y hy
  obtain ⟨n,_,rfl⟩:=List.mem_map.1 hy
  rfl
def Lt (p q:List Nat):My:=⟨[q,p],[[2,1],[2,2],[2,2]],[false,true,false]⟩
theorem jE (a:UInt8):IntKind.u8.wrap (a.toNat:Int)=(a.toNat:Int):=by rw [Jf];simp
theorem wS {G:Ghost} {v a b c:Value} {x y z:List Nat} (h:Sl G v 1 3 [a,b,c]) (ha:Cr G a x) (hb:Cr G b y) (hc:Cr G c z):LN G v [x,y,z]:=En.fin h rfl ⟨ha,hb,hc,trivial⟩
theorem clni_ok {v:Value} {G:Ghost} {l:List Nat} (hb:Cr G v l) (hl:l.length≤1000000) :
  Ai prog 32 [v] G [] fun r G' H'=>H'=[]∧Cr G' r l:=by
 obtain ⟨A,cap,rfl,hb'⟩:=id hb
 refine Ai.of_T [(0,_)] func32 rfl ntmps32 sM rfl fun w0 hs=>?_
 have hb0:=hb
 refine Wt 8 [0] hs rfl<|Zy hs (lF underlying33 rfl rfl (fun h4=>?_) (fun h4=>?_))
 ·
  refine Wp 6 [0,0] hs rfl<|Ah<|Zz results32 rfl ?_
  have hn:l=[]:=List.eq_nil_of_length_eq_zero (Sl.nil_of (h4▸hb))
  exact ⟨_,[],hs.done,rfl,by subst hn;exact Sl.nil _ _⟩
 refine Wp 5 [0] hs rfl<|O_s (Se hs zeroValue3 rfl fun v1 _ hs _=>Wp 1 [] hs rfl<|O_s (Bf hs underlying33 Lb rfl dC rfl rfl (hb) (Sn _) oM oM fun v2 _ hs =>Wp 2 [0] hs rfl<|Ah<|Zz results32 rfl ?_))
 obtain ⟨G',hG,hf,hs3⟩:=hs.fixRow noM
 exact ⟨G',[],hs3,rfl,by simpa [Cr] using hf⟩
theorem lett_ok {G:Ghost} {D:My} {c0 c1 c2 c3 p0 p1 p2 p3 q0 q1 q2 q3:Nat} {x y:UInt8} (hwc:∀ w∈[c0,c1,c2,c3],w<W64) (hp:Gz (Je [0,0,0,0]) [c0,c1,c2,c3]=[p0,p1,p2,p3]) (hq:Lc (Je [0,0,0,0]) [c0,c1,c2,c3]=[q0,q1,q2,q3]) (hp0:[p0,p1,p2,p3]≠[0,0,0,0]) (hq0:[q0,q1,q2,q3]≠[0,0,0,0]) (hwp:∀ w∈[p0,p1,p2,p3],w<W64) (hwq:∀ w∈[q0,q1,q2,q3],w<W64) (hT:Tab G) (hx:(Bu [p0,p1,p2,p3])[0]?=some x) (hy:(Bu [q0,q1,q2,q3])[0]?=some y) (hlt:y.toNat<x.toNat) (hsz:Mx [c0,c1,c2,c3]≠0) (hhx:Vv [c0,c1,c2,c3] x=true) (hhy:Vv [c0,c1,c2,c3] y=false) (hv:Hm (Lt [p0,p1,p2,p3] [q0,q1,q2,q3])=true) (hok:(Cf (Lt [p0,p1,p2,p3] [q0,q1,q2,q3])).ok) (hD:Eu (Cf (Lt [p0,p1,p2,p3] [q0,q1,q2,q3]))=some D) :
  Ai prog 225 [Gm [c0,c1,c2,c3]] G [] fun r G' H'=>H'=[]∧∃ vd,r=.tuple #[vd,Vi 0]∧Oh G' vd D:=by
 refine Ai.of_T [(0,_)] func225 rfl ntmps225 sM rfl fun w0 hs=>?_
 have hT0:=hT
 refine Wt 2 [] hs rfl<|O_s (Dw hs rfl (cs:=(List.map Af [c0,c1,c2,c3])) rfl fun b1 _ hs =>O_s (Sa hs zeroValue250 rfl fun b2 _ hs=>Wp 5 [0] hs rfl<|Zy hs (Yk 1 rfl Z19<|O_s (Sc (size_ok (c:=[c0,c1,c2,c3]) rfl) hs rfl fun v1 G' H' _ hR hG11 hs=>?_))))
 obtain ⟨rfl,rfl⟩:=hR
 replace hs:=hs.n rfl
 replace hT:=hT.mono hG11
 refine Zy hs (Di rfl rfl rfl oM<|Wp 5 [0] hs rfl<|Zy hs (Yk 1 rfl Z19<|O_s (Se hs zeroValue127 rfl fun v2 _ hs _=>?_)))
 have hsN:=hs.fixRow noM
 clear hs
 obtain ⟨_,hG17,hl17,hs⟩:=hsN
 replace hT:=hT.mono hG17
 refine O_s (Sc (wR (jB hl17 hwc) hp hq hp0 hq0 hwp hwq hT hx hy hlt) hs rfl fun v3 G' H' _ hR hG18 hs=>?_)
 obtain ⟨rfl,hCe⟩:=hR
 replace hs:=hs.n rfl
 replace hT:=hT.mono hG18
 obtain ⟨Ae,ce,rfl⟩:∃ A c,_=Value.slice A 2 c:=Be.slice hCe
 refine Wp 5 [0] hs rfl<|O_s (Se hs zeroValue4 rfl fun v4 _ hs _=>?_)
 have hsN:=hs.fixRow noM
 clear hs
 obtain ⟨_,hG20,hl20,hs⟩:=hsN
 replace hT:=hT.mono hG20
 replace hCe:=hCe.mono hG20
 obtain ⟨A20,c20,rfl,_⟩:=id hl20
 have hBs:Hq _ _ [false,true,false]:=hl20
 refine Zy hs (Ba zeroValue250 rfl PL250 rfl (cs:=[_,_,_]) rfl<|O_s (Sa hs zeroValue250 rfl fun b5 _ hs=>O_n (Sg hs rfl (rfl) fun _ hs=>Wp 1 [0] hs rfl<|Xu (fun E w=>∃ (b24 b27:Nat) (G2:Ghost),Pt G2 (.slice Ae 2 ce) [[q0,q1,q2,q3],[p0,p1,p2,p3]]∧Hq G2 (.slice A20 3 c20) [false,true,false]∧E=⟨[],[(1,Vp b1),(2,Vp b2),(4,.slice Ae 2 ce),(5,Vp b5),(6,Vs b24 2 2),(7,Vs b27 2 2)]⟩∧St ⟨w0,G,Bl []⟩ G2 [.row 3 1 (Vs b24 2 2) 2 (List.replicate 2 (Vi 0)),.row 3 1 (Vs b27 2 2) 2 (List.replicate 2 (Vi 0)),.blk b5 250 [.slice Ae 2 ce,Vn,.slice A20 3 c20],.blk b2 250 [Vn,Vn,Vn],.blk b1 127 (List.map Af [c0,c1,c2,c3])] w) ?_ ?_)))
 ·
  refine Bc [0,1,2,3,4,5,6,7] hs kR ?_
  replace hs:=hs.drew
  refine Xr [0,1,3,4] [] hs rfl<|Kq 2 5 rfl rfl kR rfl rfl ?_ ?_
  ·
   have hle:=hs.le
   refine Fx (n:=2) (m:=2) hs underlying33 Lb rfl rfl rfl oM oM oM fun b24 _ hs =>Am hs hle (gLr _) (List.sublist_cons_self _ _)<|Xr [6] [] hs rfl ?_
   have hle:=hs.le
   refine Xo 5 rfl (Fx (n:=2) (m:=2) hs underlying33 Lb rfl rfl rfl oM oM oM fun b27 _ hs =>Am hs hle (gLr _) (List.sublist_cons_self _ _)<|Xr [7] [] hs rfl ?_)
   have hs:=hs.f4.f4.f4.f3.f4
   exact Qh kR (⟨[(1,_),(2,_),(4,_),(5,_),(6,_),(7,_)],⟨rfl,rfl,rfl,rfl,rfl,rfl,trivial⟩,⟨_,_,_,hCe,hBs,rfl,hs⟩⟩)
  have hle:=hs.le
  refine Fx (n:=2) (m:=2) hs underlying33 Lb rfl rfl rfl oM oM oM fun b27 _ hs =>Am hs hle (gLr _) (List.sublist_cons_self _ _) ?_
  have hle:=hs.le
  refine Xo 2 rfl (Fx (n:=2) (m:=2) hs underlying33 Lb rfl rfl rfl oM oM oM fun b24 _ hs =>Am hs hle (gLr _) (List.sublist_cons_self _ _)<|Xr [6,7] [] hs rfl ?_)
  have hs:=hs.f4.f4.f4.f4.f4
  exact Qh kR (⟨[(1,_),(2,_),(4,_),(5,_),(6,_),(7,_)],⟨rfl,rfl,rfl,rfl,rfl,rfl,trivial⟩,⟨_,_,_,hCe,hBs,rfl,hs⟩⟩)
 clear hs
 intro E w hI
 obtain ⟨b24,b27,G2,hCe,hBs,rfl,hs⟩:=hI
 have hT:=hT0.mono hs.le
 refine Wt 7 [0] hs rfl<|Dp (Ej 3 (L:=[(1,_),(2,_),(5,_),(6,_),(7,_),(28,_),(29,_),(30,_)]) ⟨rfl,rfl,rfl,rfl,rfl,rfl,rfl,rfl,trivial⟩ (Gn<|Wt 12 [0] hs rfl<|Zy hs (Bv hCe 0 underlying248 sizeOf127 rfl rfl rfl sM fun p33 c33 hp33 hc33 hR33 =>Zy hs (Cu (vs:=List.map Af [q0,q1,q2,q3]) isAgg127 sizeOf127 rfl (hR33.1▸hp33) rfl<|O_s (Bd hs zeroValue127 (cs:=(List.map Af [0,0,0,0])) rfl fun b9 _ hs =>Wp 1 [] hs rfl<|O_n (Sw hs rfl (vs:=(List.map Af [q0,q1,q2,q3])) Kn Kn (Df _) fun _ hs=>Wp 7 [0] hs rfl<|Zy hs (Bj (0) underlying33 sizeOf3 rfl rfl rfl dC<|O_n (Ct hs.f1 sizeOf3 rfl rfl rfl oM fun _ hs =>Zy hs (Bj (0) underlying33 sizeOf3 rfl rfl rfl dC<|O_n (Ct hs.f2 sizeOf3 rfl rfl rfl oM fun _ hs =>Wp 2 [0] hs rfl<|Bc [0,1,2,3,4] hs kR ?_))))))))))
 replace hs:=hs.drew
 refine Xt 0 hs rfl (Yk 5 rfl Z19<|Xt 1 hs rfl (Yk 2 rfl Z21 ?_))
 have hle:=hs.le
 refine Xo 2 rfl (Sc (Sk (c:=[q0,q1,q2,q3]) rfl hwq hT hy) hs rfl fun v5 G' H' _ hR hG43 hs=>?_)
 obtain ⟨rfl,rfl⟩:=hR
 replace hs:=hs.n rfl
 replace hT:=hT.mono hG43
 replace hCe:=hCe.mono hG43
 replace hBs:=hBs.mono hG43
 refine Am hs hle hG43 (lSr _)<|Xt 3 hs rfl (Dj underlying3 underlying5 (c:=(y.toNat:Int)) rfl (jE _) ?_)
 have hle:=hs.le
 refine Xo 4 rfl (Sc (vV (c:=[c0,c1,c2,c3]) (x:=y) rfl) hs rfl fun v6 G' H' _ hR hG45 hs=>?_)
 obtain ⟨rfl,rfl⟩:=hR
 replace hs:=hs.n rfl
 replace hT:=hT.mono hG45
 replace hCe:=hCe.mono hG45
 replace hBs:=hBs.mono hG45
 rw [hhy]
 refine Am hs hle hG45 (lSr _)<|Xe (Zk [1,2,5,6,7,8,28,29,30,45] rfl<|Wu 3 [] hs rfl<|Zy hs (Eb (c:=(1)) rfl rfl dC dC<|Wp 1 [] hs rfl<|Cl ⟨[(1,_),(2,_),(5,_),(6,_),(7,_),(28,_),(29,_),(30,_)],⟨rfl,rfl,rfl,rfl,rfl,rfl,rfl,rfl,trivial⟩,Gn ?_⟩))
 refine Wt 12 [0] hs rfl<|Zy hs (Bv hCe 1 underlying248 sizeOf127 rfl rfl rfl sM fun p33 c33 hp33 hc33 hR33 =>Zy hs (Cu (vs:=List.map Af [p0,p1,p2,p3]) isAgg127 sizeOf127 rfl (hR33.1▸hp33) rfl<|O_s (Bd hs zeroValue127 (cs:=(List.map Af [0,0,0,0])) rfl fun b9 _ hs =>Wp 1 [] hs rfl<|O_n (Sw hs rfl (vs:=(List.map Af [p0,p1,p2,p3])) Kn Kn (Df _) fun _ hs=>Wp 7 [0] hs rfl<|Zy hs (Bj (1) underlying33 sizeOf3 rfl rfl rfl dC<|O_n (Ct hs.f2 sizeOf3 rfl rfl rfl oM fun _ hs =>Zy hs (Bj (1) underlying33 sizeOf3 rfl rfl rfl dC<|O_n (Ct hs.f2 sizeOf3 rfl rfl rfl oM fun _ hs =>Wp 2 [10,1,2,5,6,7,8,9,28,29,30] hs rfl<|Bc [0,1,2,3,4] hs kR ?_))))))))
 replace hs:=hs.drew
 refine Xt 0 hs rfl (Yk 6 rfl Z19<|Xt 1 hs rfl (Yk 2 rfl Z20 ?_))
 have hle:=hs.le
 refine Xo 2 rfl (Sc (Sk (c:=[p0,p1,p2,p3]) rfl hwp hT hx) hs rfl fun v7 G' H' _ hR hG43 hs=>?_)
 obtain ⟨rfl,rfl⟩:=hR
 replace hs:=hs.n rfl
 replace hT:=hT.mono hG43
 replace hCe:=hCe.mono hG43
 replace hBs:=hBs.mono hG43
 refine Am hs hle hG43 (lSr _)<|Xt 3 hs rfl (Dj underlying3 underlying5 (c:=(x.toNat:Int)) rfl (jE _) ?_)
 have hle:=hs.le
 refine Xo 4 rfl (Sc (vV (c:=[c0,c1,c2,c3]) (x:=x) rfl) hs rfl fun v8 G' H' _ hR hG45 hs=>?_)
 obtain ⟨rfl,rfl⟩:=hR
 replace hs:=hs.n rfl
 replace hT:=hT.mono hG45
 replace hCe:=hCe.mono hG45
 replace hBs:=hBs.mono hG45
 rw [hhx]
 refine Am hs hle hG45 (lSr _)<|Xe (Zk [1,2,5,6,7,8,28,29,30,45] rfl<|Wu 4 [] hs rfl<|Zy hs (Bj (1) underlying33 sizeOf3 rfl rfl rfl dC<|O_n (Ct hs.f1 sizeOf3 rfl rfl rfl oM fun _ hs =>Wp 2 [0] hs rfl<|Zy hs (Eb (c:=(2)) rfl rfl dC dC<|Wp 1 [] hs rfl<|Cl ⟨[(1,_),(2,_),(5,_),(6,_),(7,_),(28,_),(29,_),(30,_)],⟨rfl,rfl,rfl,rfl,rfl,rfl,rfl,rfl,trivial⟩,Gn ?_⟩))))
 refine Wt 7 [0] hs rfl ?_
 obtain ⟨_,hG_hf6,hf6,hs⟩:=hs.fixRow noM
 replace hT:=hT.mono hG_hf6
 replace hCe:=hCe.mono hG_hf6
 replace hBs:=hBs.mono hG_hf6
 obtain ⟨_,hG_hf7,hf7,hs⟩:=hs.fixRow noM
 replace hT:=hT.mono hG_hf7
 replace hCe:=hCe.mono hG_hf7
 replace hBs:=hBs.mono hG_hf7
 replace hf6:=hf6.mono hG_hf7
 replace hf6:Cr _ _ [2,1]:=hf6
 replace hf7:Cr _ _ [2,2]:=hf7
 refine Wu 5 [] hs rfl<|O_s (Sc (clni_ok hf7 dC) hs rfl fun v9 G' H' _ hR hG53 hs=>?_)
 obtain ⟨rfl,hcl⟩:=hR
 replace hs:=hs.n rfl
 replace hT:=hT.mono hG53
 replace hCe:=hCe.mono hG53
 replace hBs:=hBs.mono hG53
 replace hf6:=hf6.mono hG53
 replace hf7:=hf7.mono hG53
 obtain ⟨A53,c53,rfl,_⟩:=id hcl
 refine O_s (Se hs zeroValue33 rfl fun v10 _ hs _=>?_)
 have hsN:=hs.fixRow noM
 clear hs
 obtain ⟨_,hG54,hl54,hs⟩:=hsN
 replace hT:=hT.mono hG54
 replace hCe:=hCe.mono hG54
 replace hBs:=hBs.mono hG54
 replace hf6:=hf6.mono hG54
 replace hf7:=hf7.mono hG54
 replace hcl:=hcl.mono hG54
 have hLN:=wS hl54 hf6 hf7 hcl
 obtain ⟨A54,c54,rfl,_⟩:=id hl54
 refine Wp 1 [1] hs rfl<|O_n (Sd hs.f2 rfl rfl fun _ hs=>Wp 4 [0,0] hs rfl<|O_s (Sc (canc_ok (d:=Lt [p0,p1,p2,p3] [q0,q1,q2,q3]) ⟨_,_,_,rfl,hCe,hLN,hBs⟩ hv hok hD hT) hs rfl fun v11 G' H' _ hR hG57 hs=>?_))
 obtain ⟨rfl,vd,rfl,hz⟩:=hR
 replace hs:=hs.n rfl
 obtain ⟨zc,zn,za,rfl,hzC,hzN,hzA⟩:=hz
 obtain ⟨Cz,cz,rfl⟩:=Be.slice hzC
 obtain ⟨Nz,nz,rfl⟩:=Be.slice hzN
 obtain ⟨Az,az,rfl,_⟩:=id hzA
 refine Wp 2 [] hs rfl<|O_n (Sg hs.f3 rfl (rfl) fun _ hs=>Wp 2 [2,2,3] hs rfl<|Ah ?_)
 have hr:=hs
 refine Bi (vs:=[_,_]) results225 rfl ⟨Bk 0 hr isAgg250 sizeOf250 rfl (cs:=[_,_,_]) rfl rfl,rfl,trivial⟩ ?_
 try dsimp only [tup]
 exact ⟨_,[],hs.done,rfl,_,rfl,_,_,_,rfl,hzC,hzN,hzA⟩
instance (t:Tb):Decidable t.ok:=by unfold Tb.ok;infer_instance
def wT (d:My):Option My:=if Hm d=true∧(Cf d).ok then (Eu (Cf d)).bind fun D=>if D.cls.length≤256∧(Cf D).ok∧(Cf D).next.length≤64 then some D else none else none
def limC (t:Tb):Option My:=if t.ok then (Eu t).bind fun D=>if D.next.length≤64 then some D else none else none
def dP (d:My):Option My:=(wT d).bind fun D=>match rR (Fq (Cf D) (Cf D)).bytes (dM (Cf D)) (dN (Cf D)) 4096 4097 0 [⟨1,0,1⟩] [] [] with
  | some (some RN)=>limC ⟨(Fq (Cf D) (Cf D)).cell,(Fq (Cf D) (Cf D)).bytes.length,RN.1,RN.2⟩
  | _=>none
def dQ (a b:My):Option My:=(wT a).bind fun e1=>(wT b).bind fun e2=>match rR (Fq (Cf e1) (Cf e2)).bytes (Sj (Cf e1) (Cf e2)) (fun a=>Oe (Cf e2) a.s) 4096 4097 0 [Jg (Cf e1) ⟨0,0,0⟩] [] [] with
  | some (some RN)=>limC ⟨(Fq (Cf e1) (Cf e2)).cell,(Fq (Cf e1) (Cf e2)).bytes.length,RN.1,RN.2⟩
  | _=>none
theorem Um {d D:My} (h:wT d=some D):Hm d=true∧(Cf d).ok∧Eu (Cf d)=some D∧D.cls.length≤256∧(Cf D).ok∧(Cf D).next.length≤64:=by
  unfold wT at h
  split at h
  · rename_i h0
    obtain ⟨E,hE,h⟩:=Option.bind_eq_some_iff.1 h
    split at h
    · rename_i h1
      injection h with h;subst h
      exact ⟨h0.1,h0.2,hE,h1⟩
    · cases h
  · cases h
theorem dR {t:Tb} {D:My} (h:limC t=some D):t.ok∧Eu t=some D∧D.next.length≤64:=by
  unfold limC at h
  split at h
  · rename_i h0
    obtain ⟨E,hE,h⟩:=Option.bind_eq_some_iff.1 h
    split at h
    · rename_i h1
      injection h with h;subst h
      exact ⟨h0,hE,h1⟩
    · cases h
  · cases h
theorem star_d {G:Ghost} {v:Value} {d D:My} (hd:Oh G v d) (hT:Tab G) (h:dP d=some D) :
    Ai prog 262 [v] G [] fun r G' H'=>H'=[]∧∃ vd,r=.tuple #[vd,Vi 0]∧Oh G' vd D:=by
  unfold dP at h
  obtain ⟨D1,h1,h⟩:=Option.bind_eq_some_iff.1 h
  obtain ⟨hv,hok0,hD,hc1,hok1,h64⟩:=Um h1
  split at h
  · rename_i RN hex
    obtain ⟨hokR,hD2,hn2⟩:=dR h
    exact star_ok hd hv hok0 hD hc1 hok1 h64 hT hex hokR hD2 hn2
  · cases h
theorem jF (x:Tb) (a:Cs):(Jg x a).p=a.p:=by unfold Jg;split<;>rfl
theorem to_lt {t:Tb} (hok:t.ok) {s c:Nat} (hs:s<t.next.length) (hc:c<256) (hl:t.cell.length=256):t.to s (t.cell.getD c 0)<t.next.length:=by
  obtain ⟨_,_,_,_,hr,hce⟩:=hok
  have h1:t.cell.getD c 0<t.cells:=by rw [Bn oM];exact hce _ (List.getElem_mem _)
  obtain ⟨h2,h3⟩:=hr t.next[s] (List.getElem_mem _)
  unfold Tb.to
  rw [Bn hs,Bn (l:=t.next[s]) oM]
  exact h3 _ (List.getElem_mem _)
theorem conc_d {G:Ghost} {v1 v2:Value} {d1 d2 D:My} (hd1:Oh G v1 d1) (hd2:Oh G v2 d2) (hT:Tab G) (h:dQ d1 d2=some D) :
    Ai prog 226 [v1,v2] G [] fun r G' H'=>H'=[]∧∃ vd,r=.tuple #[vd,Vi 0]∧Oh G' vd D:=by
  unfold dQ at h
  obtain ⟨e1,h1,h⟩:=Option.bind_eq_some_iff.1 h
  obtain ⟨e2,h2,h⟩:=Option.bind_eq_some_iff.1 h
  obtain ⟨hv1,hok1,hD1,hc1,hok3,_⟩:=Um h1
  obtain ⟨hv2,hok2,hD2,hc2,hok4,h64⟩:=Um h2
  split at h
  · rename_i RN hex
    obtain ⟨hokR,hDR,hn2⟩:=dR h
    exact sE hd1 hd2 hv1 hv2 hok1 hok2 hD1 hD2 hc1 hc2 hok3 hok4 h64 hT hex (by rw [jF];exact hok3.1) (fun a c ha hc=>by unfold Sj;rw [jF];exact to_lt hok3 ha hc (Si _)) hokR hDR hn2
  · cases h
theorem pow0_ok {G:Ghost} {v1 v2:Value} {d1 d2:My} (hd1:Oh G v1 d1) (hd2:Oh G v2 d2) :
  Ai prog 261 [v1,v2,Vi 0] G [] fun r _ H'=>H'=[]∧r=.tuple #[v1,Vi 0]:=by
 obtain ⟨vc1,vn1,va1,rfl,hC1,hN1,hA1⟩:=hd1
 obtain ⟨Ac1,cc1,rfl⟩:=Be.slice hC1
 obtain ⟨An1,cn1,rfl⟩:=Be.slice hN1
 obtain ⟨Aa1,ca1,rfl,_⟩:=id hA1
 obtain ⟨vc2,vn2,va2,rfl,hC2,hN2,hA2⟩:=hd2
 obtain ⟨Ac2,cc2,rfl⟩:=Be.slice hC2
 obtain ⟨An2,cn2,rfl⟩:=Be.slice hN2
 obtain ⟨Aa2,ca2,rfl,_⟩:=id hA2
 refine Ai.of_T [(0,_),(1,_),(2,_)] func261 rfl ntmps261 sM rfl fun w0 hs =>Wt 2 [] hs rfl<|O_s (Sb hs rfl fun b3 _ hs=>O_s (Sb hs rfl fun b4 _ hs=>O_s (Sa hs zeroValue250 rfl fun b6 _ hs=>Wp 12 [0,0,0] hs rfl<|Dp (Ej 1 (L:=[(3,_),(4,_),(6,_),(9,_),(10,_)]) ⟨rfl,rfl,rfl,rfl,rfl,trivial⟩ (Gn<|Wt 7 [0] hs rfl<|Wu 3 [2] hs rfl<|O_n (Sg hs rfl (rfl) fun _ hs=>Wp 2 [0] hs rfl<|Ah ?_))))))
 have hr:=hs
 refine Bi (vs:=[_,_]) results261 rfl ⟨Bk 0 hr isAgg250 sizeOf250 rfl (cs:=[_,_,_]) rfl rfl,rfl,trivial⟩ ?_
 try dsimp only [tup]
 exact ⟨_,[],hs.done,rfl,rfl⟩
theorem rept_ok {G:Ghost} {v:Value} {d E0 D2 D:My} (hd:Oh G v d) (hT:Tab G) (hok:Io.ok) (hE:Eu Io=some E0) (hS:dP d=some D2) (hC:dQ E0 D2=some D) :
  Ai prog 230 [v,Vi 0,Vi (-1)] G [] fun r G' H'=>H'=[]∧∃ vd,r=.tuple #[vd,Vi 0]∧Oh G' vd D:=by
 obtain ⟨vc,vn,va,rfl,hC0,hN,hA⟩:=hd
 obtain ⟨Ac,cc,rfl⟩:=Be.slice hC0
 obtain ⟨An,cn,rfl⟩:=Be.slice hN
 obtain ⟨Aa,ca,rfl,_⟩:=id hA
 refine Ai.of_T [(0,_),(1,_),(2,_)] func230 rfl ntmps230 sM rfl fun w0 hs=>?_
 have hC00:=hC0
 have hN0:=hN
 have hA0:=hA
 have hT0:=hT
 refine Wt 2 [] hs rfl<|O_s (Sb hs rfl fun b3 _ hs=>O_s (Sa hs zeroValue250 rfl fun b6 _ hs=>Wp 4 [0] hs rfl<|O_s (Sc (word_ok hok hE) hs rfl fun v1 G' H' _ hR hG15 hs=>?_)))
 obtain ⟨rfl,vd,rfl,he⟩:=hR
 replace hs:=hs.n rfl
 replace hC0:=hC0.mono hG15
 replace hN:=hN.mono hG15
 replace hA:=hA.mono hG15
 replace hT:=hT.mono hG15
 obtain ⟨ec,en,ea,rfl,heC,heN,heA⟩:=he
 obtain ⟨Ce,ce,rfl⟩:=Be.slice heC
 obtain ⟨Ne,ne,rfl⟩:=Be.slice heN
 obtain ⟨Ae,ae,rfl,_⟩:=id heA
 refine Wp 3 [] hs rfl<|O_s (Sa hs zeroValue250 rfl fun b8 _ hs=>O_n (Sg hs rfl (rfl) fun _ hs=>Wp 15 [0,0,0,2] hs rfl<|O_s (Sc (pow0_ok ⟨_,_,_,rfl,heC,heN,heA⟩ ⟨_,_,_,rfl,hC0,hN,hA⟩) hs rfl fun v2 G' H' _ hR hG26 hs=>?_)))
 obtain ⟨rfl,rfl⟩:=hR
 replace hs:=hs.n rfl
 replace hC0:=hC0.mono hG26
 replace hN:=hN.mono hG26
 replace hA:=hA.mono hG26
 replace hT:=hT.mono hG26
 replace heC:=heC.mono hG26
 replace heN:=heN.mono hG26
 replace heA:=heA.mono hG26
 refine Wp 3 [] hs rfl<|O_s (Sa hs zeroValue250 rfl fun b10 _ hs=>O_n (Sg hs rfl (rfl) fun _ hs=>Wp 25 [7,1,2,3,6,8,9,10,0,0,3] hs rfl<|O_s (Sc (star_d ⟨_,_,_,rfl,hC0,hN,hA⟩ hT hS) hs rfl fun v3 G' H' _ hR hG42 hs=>?_)))
 obtain ⟨rfl,vd,rfl,hw⟩:=hR
 replace hs:=hs.n rfl
 replace hT:=hT.mono hG42
 replace heC:=heC.mono hG42
 replace heN:=heN.mono hG42
 replace heA:=heA.mono hG42
 obtain ⟨wc,wn,wa,rfl,hwC,hwN,hwA⟩:=hw
 obtain ⟨Cw,cw,rfl⟩:=Be.slice hwC
 obtain ⟨Nw,nw,rfl⟩:=Be.slice hwN
 obtain ⟨Aw,aw,rfl,_⟩:=id hwA
 refine Wp 3 [] hs rfl<|O_s (Sa hs zeroValue250 rfl fun b11 _ hs=>O_n (Sg hs rfl (rfl) fun _ hs=>Wp 14 [0,5,6,10,11,12,46,1,0] hs rfl<|O_s (Sc (conc_d ⟨_,_,_,rfl,heC,heN,heA⟩ ⟨_,_,_,rfl,hwC,hwN,hwA⟩ hT hC) hs rfl fun v4 G' H' _ hR hG51 hs=>?_)))
 obtain ⟨rfl,vd,rfl,hz⟩:=hR
 replace hs:=hs.n rfl
 obtain ⟨zc,zn,za,rfl,hzC,hzN,hzA⟩:=hz
 obtain ⟨Cz,cz,rfl⟩:=Be.slice hzC
 obtain ⟨Nz,nz,rfl⟩:=Be.slice hzN
 obtain ⟨Az,az,rfl,_⟩:=id hzA
 refine Wp 2 [] hs rfl<|O_n (Sg hs.f3 rfl (rfl) fun _ hs=>Wp 2 [0] hs rfl<|Ah ?_)
 have hr:=hs
 refine Bi (vs:=[_,_]) results230 rfl ⟨Bk 0 hr isAgg250 sizeOf250 rfl (cs:=[_,_,_]) rfl rfl,rfl,trivial⟩ ?_
 try dsimp only [tup]
 exact ⟨_,[],hs.done,rfl,_,rfl,_,_,_,rfl,hzC,hzN,hzA⟩
theorem eX {G:Ghost} {k:Int} :
  Ai prog 222 [Vi k] G [] fun r _ H'=>H'=[]∧r=Vi ((To k:Nat):Int):=by
 refine Ai.of_T [(0,_)] func222 rfl ntmps222 sM rfl fun w0 hs =>Wt 13 [0,0] hs rfl<|Zy hs (Yc rfl (fun h5=>?_) fun h5=>?_)
 ·
  refine Wp 9 [0,0] hs rfl<|Ah<|Zz results222 rfl ?_
  exact ⟨_,[],hs.done,rfl,by rw [vN oM];rfl⟩
 refine Wp 5 [0] hs rfl<|Zy hs (Yc rfl (fun h6=>?_) fun h6=>?_)
 ·
  refine Wp 9 [0,0] hs rfl<|Ah<|Zz results222 rfl ?_
  exact ⟨_,[],hs.done,rfl,by rw [vN oM];rfl⟩
 refine Wp 4 [0] hs rfl<|Zy hs (Yc rfl (fun h7=>?_) fun h7=>?_)
 ·
  refine Wp 7 [0,0] hs rfl<|Ah<|Zz results222 rfl ?_
  exact ⟨_,[],hs.done,rfl,by rw [vN oM];rfl⟩
 refine Wp 6 [0] hs rfl<|Zy hs (Yc rfl (fun h9=>?_) fun h9=>?_)
 ·
  refine Wp 9 [0,0] hs rfl<|Ah<|Zz results222 rfl ?_
  exact ⟨_,[],hs.done,rfl,by rw [arF_1 oM];rfl⟩
 refine Wp 4 [0] hs rfl<|Zy hs (Yc rfl (fun h10=>?_) fun h10=>?_)
 ·
  refine Wp 7 [0,0] hs rfl<|Ah<|Zz results222 rfl ?_
  exact ⟨_,[],hs.done,rfl,by rw [arF_1 oM];rfl⟩
 refine Wp 8 [0,0] hs rfl<|Ah<|Zz results222 rfl ?_
 exact ⟨_,[],hs.done,rfl,by rw [arF_0 oM oM];rfl⟩
theorem in_ok {G:Ghost} {x:Int} {i p:Nat} :
  Ai prog 241 [Vi x,Vp p] G [.blk p 3 [Vi (i:Int)]] fun r _ H'=>H'=[.blk p 3 [Vi (i:Int)]]∧r=.bool (decide (0≤x∧x<(i:Int))):=by
 refine Ai.of_T [(0,_),(1,_)] func241 rfl ntmps241 sM rfl fun w0 hs =>Wt 7 [0] hs rfl<|Zy hs (Yc rfl (fun h5=>?_) fun h5=>?_)
 ·
  refine Wp 3 [0] hs rfl<|Zg hs rfl (Yc rfl (fun h9=>?_) fun h9=>?_)
  ·
   refine Wp 3 [0] hs rfl<|Ah<|Zz results241 rfl ?_
   exact ⟨_,_,hs,rfl,congrArg Value.bool (decide_eq_true oM).symm⟩
  refine Wp 3 [0] hs rfl<|Ah<|Zz results241 rfl ?_
  exact ⟨_,_,hs,rfl,congrArg Value.bool (decide_eq_false oM).symm⟩
 refine Wp 7 [0] hs rfl<|Ah<|Zz results241 rfl ?_
 exact ⟨_,_,hs,rfl,congrArg Value.bool (decide_eq_false oM).symm⟩
theorem mE {n:Ef} {i:Int} (h:0<To n.kind∧¬ (0≤n.l∧n.l<i)):¬ Na n i:=fun ho=>h.2 (ops_l ho h.1)
theorem mF {n:Ef} {i:Int} (h:To n.kind=0∧n.l≠0):¬ Na n i:=fun ho=>by have h1:=ho.1;rw [if_neg oM] at h1;exact h.2 h1
theorem mG {n:Ef} {i:Int} (h:1<To n.kind∧¬ (0≤n.r∧n.r<i)):¬ Na n i:=fun ho=>h.2 (ops_r ho h.1)
theorem ops_b8 {n:Ef} {i:Int} (h:To n.kind<2∧n.r≠0):¬ Na n i:=fun ho=>by have h1:=ho.2;rw [if_neg oM] at h1;exact h.2 h1
theorem Eg {b:Bool} {P:Prop} (h:b=true↔P) (hb:b=false):¬ P:=fun p=>by rw [h.2 p] at hb;cases hb
theorem pB {n:Ef} {i:Int} (h5:¬ (0<To n.kind∧¬ (0≤n.l∧n.l<i))) (h6:¬ (To n.kind=0∧n.l≠0)) (h7:¬ (1<To n.kind∧¬ (0≤n.r∧n.r<i))) (h8:¬ (To n.kind<2∧n.r≠0)):Na n i:=by
  refine ⟨?_,?_⟩
  · by_cases h:0<To n.kind
    · rw [if_pos h];exact Classical.not_not.1 fun h'=>h5 ⟨h,h'⟩
    · rw [if_neg h];exact Classical.not_not.1 fun h'=>h6 ⟨by omega,h'⟩
  · by_cases h:1<To n.kind
    · rw [if_pos h];exact Classical.not_not.1 fun h'=>h7 ⟨h,h'⟩
    · rw [if_neg h];exact Classical.not_not.1 fun h'=>h8 ⟨by omega,h'⟩
theorem chk_ok {G:Ghost} {n:Ef} {i:Nat} (hc:Zu n.c) :
  Ai prog 221 [.agg (oJ n).toArray,Vi (i:Int)] G [] fun r _ H'=>H'=[]∧r=Vi (Em n i):=by
 obtain ⟨kd,c,ll,rr,mn,mx⟩:=n
 obtain ⟨c0,c1,c2,c3,rfl⟩:=Mj hc.1
 show Ai prog 221 [.agg #[Vi kd,Af c0,Af c1,Af c2,Af c3,Vi ll,Vi rr,Vi mn,Vi mx],Vi (i:Int)] G [] _
 refine Ai.of_T [(0,_),(1,_)] func221 rfl ntmps221 sM rfl fun w0 hs =>Wt 2 [] hs rfl<|O_s (Sb hs rfl fun b2 _ hs=>O_s (Sb hs rfl fun b3 _ hs=>Wp 7 [0,0,1] hs rfl<|Zy hs (Yc rfl (fun h9=>?_) fun h9=>?_)))
 ·
  refine Wp 11 [0,0] hs rfl<|Ah<|Zz results221 rfl ?_
  unfold Em;rw [if_pos El]
  exact ⟨_,[],hs.done,rfl,rfl⟩
 refine Wp 3 [0,1] hs rfl<|Zg hs rfl (Yc rfl (fun h13=>?_) fun h13=>?_)
 ·
  refine Wp 7 [0,0] hs rfl<|Ah<|Zz results221 rfl ?_
  unfold Em;rw [if_pos El]
  exact ⟨_,[],hs.done,rfl,rfl⟩
 refine Wp 6 [0] hs rfl<|Zy hs (Dn (vs:=[_]) rfl<|Wp 6 [0,0,1] hs rfl<|O_s (Sc (eX) hs rfl fun v1 G' H' _ hR hG18 hs=>?_))
 obtain ⟨rfl,rfl⟩:=hR
 replace hs:=hs.n rfl
 refine Wp 5 [0] hs rfl<|Xu (fun E w=>∃ (b5:Bool) (G':Ghost),(b5=true↔(0<To kd∧¬ (0≤ll∧ll<(i:Int))))∧E=⟨[],[(2,Vp b2),(5,.func (.func 241) #[] #[Vp b3]),(6,Vi ((To kd:Nat):Int)),(19,.bool b5)]⟩∧St ⟨w0,G,Bl []⟩ G' [.blk b2 172 [Vi kd,Af c0,Af c1,Af c2,Af c3,Vi ll,Vi rr,Vi mn,Vi mx],.blk b3 3 [Vi (i:Int)]] w) ?_ ?_
 ·
  refine Wt 2 [] hs rfl<|Zy hs (Yc rfl (fun h21=>?_) fun h21=>?_)
  ·
   refine Wp 4 [5,1] hs rfl<|Ch 22 rfl rfl (Cb (args:=[_]) (lb:=[_]) (H1:=[_]) hs rfl rfl func241 rfl kR (in_ok (x:=ll)) fun v2 G' H' _ hR hG26 hs=>?_)
   obtain ⟨rfl,rfl⟩:=hR
   replace hs:=hs.n rfl
   cases h26:decide (0≤ll∧ll<(i:Int))
   ·
    refine Wp 3 [] hs rfl ?_
    have hs:=hs.f1
    exact Cl (⟨[(2,_),(5,_),(6,_),(19,_)],⟨rfl,rfl,rfl,rfl,trivial⟩,⟨_,_,⟨fun _=>⟨by omega,of_decide_eq_false h26⟩,fun _=>rfl⟩,rfl,hs⟩⟩)
   refine Wp 3 [] hs rfl ?_
   have hs:=hs.f1
   exact Cl (⟨[(2,_),(5,_),(6,_),(19,_)],⟨rfl,rfl,rfl,rfl,trivial⟩,⟨_,_,⟨fun h=>gK,fun h=>absurd (of_decide_eq_true h26) h.2⟩,rfl,hs⟩⟩)
  refine Wp 8 [] hs rfl ?_
  have hs:=hs.f1
  exact Cl (⟨[(2,_),(5,_),(6,_),(19,_)],⟨rfl,rfl,rfl,rfl,trivial⟩,⟨_,_,⟨fun h=>gK,fun h=>absurd h.1 oM⟩,rfl,hs⟩⟩)
 clear hs
 intro E w hI
 obtain ⟨b5,G',hb5,rfl,hs⟩:=hI
 refine Wd (fun E w=>∃ (bj:Bool) (G':Ghost),(bj=true↔¬ Na ⟨kd,[c0,c1,c2,c3],ll,rr,mn,mx⟩ (i:Int))∧E=⟨[],[(2,Vp b2),(19,.bool bj)]⟩∧St ⟨w0,G,Bl []⟩ G' [.blk b2 172 [Vi kd,Af c0,Af c1,Af c2,Af c3,Vi ll,Vi rr,Vi mn,Vi mx],.blk b3 3 [Vi (i:Int)]] w) ?_ ?_
 ·
  refine Fv rfl (fun hif=>?_) (fun hif=>?_)
  ·
   refine Wz ?_
   have hs:=hs.f1.f1
   exact ⟨[(2,_),(19,_)],⟨rfl,rfl,trivial⟩,⟨_,_,⟨fun _=>by first|exact mG (hb7.1 hif)|exact mF (hb6.1 hif)|exact mE (hb5.1 hif),fun _=>hif⟩,rfl,hs⟩⟩
  have hn5:=hif
  refine Xu (fun E w=>∃ (b6:Bool) (G':Ghost),(b6=true↔(To kd=0∧ll≠0))∧E=⟨[],[(2,Vp b2),(5,.func (.func 241) #[] #[Vp b3]),(6,Vi ((To kd:Nat):Int)),(19,.bool b6)]⟩∧St ⟨w0,G,Bl []⟩ G' [.blk b2 172 [Vi kd,Af c0,Af c1,Af c2,Af c3,Vi ll,Vi rr,Vi mn,Vi mx],.blk b3 3 [Vi (i:Int)]] w) ?_ ?_
  ·
   refine Wt 2 [] hs rfl<|Zy hs (Yc rfl (fun h30=>?_) fun h30=>?_)
   ·
    refine Wp 3 [5,0] hs rfl<|Zg hs rfl (Yc rfl (fun h34=>?_) fun h34=>?_)
    ·
     refine Wp 2 [] hs rfl ?_
     have hs:=hs.f1.f1
     exact Cl (⟨[(2,_),(5,_),(6,_),(19,_)],⟨rfl,rfl,rfl,rfl,trivial⟩,⟨_,_,⟨fun _=>⟨by omega,by omega⟩,fun _=>rfl⟩,rfl,hs⟩⟩)
    refine Wp 2 [] hs rfl ?_
    have hs:=hs.f1.f1
    exact Cl (⟨[(2,_),(5,_),(6,_),(19,_)],⟨rfl,rfl,rfl,rfl,trivial⟩,⟨_,_,⟨fun h=>gK,fun h=>absurd h.2 oM⟩,rfl,hs⟩⟩)
   refine Wp 6 [] hs rfl ?_
   have hs:=hs.f1.f1
   exact Cl (⟨[(2,_),(5,_),(6,_),(19,_)],⟨rfl,rfl,rfl,rfl,trivial⟩,⟨_,_,⟨fun h=>gK,fun h=>absurd h.1 oM⟩,rfl,hs⟩⟩)
  clear hs
  intro E w hI
  obtain ⟨b6,G',hb6,rfl,hs⟩:=hI
  refine Fv rfl (fun hif=>?_) (fun hif=>?_)
  ·
   refine Wz ?_
   have hs:=hs.f1.f1
   exact ⟨[(2,_),(19,_)],⟨rfl,rfl,trivial⟩,⟨_,_,⟨fun _=>by first|exact mG (hb7.1 hif)|exact mF (hb6.1 hif)|exact mE (hb5.1 hif),fun _=>hif⟩,rfl,hs⟩⟩
  have hn6:=hif
  refine Xu (fun E w=>∃ (b7:Bool) (G':Ghost),(b7=true↔(1<To kd∧¬ (0≤rr∧rr<(i:Int))))∧E=⟨[],[(2,Vp b2),(6,Vi ((To kd:Nat):Int)),(19,.bool b7)]⟩∧St ⟨w0,G,Bl []⟩ G' [.blk b2 172 [Vi kd,Af c0,Af c1,Af c2,Af c3,Vi ll,Vi rr,Vi mn,Vi mx],.blk b3 3 [Vi (i:Int)]] w) ?_ ?_
  ·
   refine Wt 2 [] hs rfl<|Zy hs (Yc rfl (fun h37=>?_) fun h37=>?_)
   ·
    refine Wp 4 [6,0] hs rfl<|Ch 38 rfl rfl (Cb (args:=[_]) (lb:=[_]) (H1:=[_]) hs.f1 rfl rfl func241 rfl kR (in_ok (x:=rr)) fun v3 G' H' _ hR hG42 hs=>?_)
    obtain ⟨rfl,rfl⟩:=hR
    replace hs:=hs.n rfl
    cases h42:decide (0≤rr∧rr<(i:Int))
    ·
     refine Wp 3 [] hs rfl ?_
     have hs:=hs.f1
     exact Cl (⟨[(2,_),(6,_),(19,_)],⟨rfl,rfl,rfl,trivial⟩,⟨_,_,⟨fun _=>⟨by omega,of_decide_eq_false h42⟩,fun _=>rfl⟩,rfl,hs⟩⟩)
    refine Wp 3 [] hs rfl ?_
    have hs:=hs.f1
    exact Cl (⟨[(2,_),(6,_),(19,_)],⟨rfl,rfl,rfl,trivial⟩,⟨_,_,⟨fun h=>gK,fun h=>absurd (of_decide_eq_true h42) h.2⟩,rfl,hs⟩⟩)
   refine Wp 8 [] hs rfl ?_
   have hs:=hs.f1.f1
   exact Cl (⟨[(2,_),(6,_),(19,_)],⟨rfl,rfl,rfl,trivial⟩,⟨_,_,⟨fun h=>gK,fun h=>absurd h.1 oM⟩,rfl,hs⟩⟩)
  clear hs
  intro E w hI
  obtain ⟨b7,G',hb7,rfl,hs⟩:=hI
  refine Fv rfl (fun hif=>?_) (fun hif=>?_)
  ·
   refine Wz ?_
   have hs:=hs.f1.f1
   exact ⟨[(2,_),(19,_)],⟨rfl,rfl,trivial⟩,⟨_,_,⟨fun _=>by first|exact mG (hb7.1 hif)|exact mF (hb6.1 hif)|exact mE (hb5.1 hif),fun _=>hif⟩,rfl,hs⟩⟩
  refine Wt 2 [] hs rfl<|Zy hs (Yc rfl (fun h46=>?_) fun h46=>?_)
  ·
   refine Wp 3 [6,0] hs rfl<|Zg hs rfl (Yc rfl (fun h50=>?_) fun h50=>?_)
   ·
    refine Wp 2 [] hs rfl ?_
    have hs:=hs.f1.f1
    exact Cl (⟨[(2,_),(19,_)],⟨rfl,rfl,trivial⟩,⟨_,_,⟨fun _=>ops_b8 ⟨by dsimp only;omega,by dsimp only;omega⟩,fun _=>rfl⟩,rfl,hs⟩⟩)
   refine Wp 2 [] hs rfl ?_
   have hs:=hs.f1.f1
   exact Cl (⟨[(2,_),(19,_)],⟨rfl,rfl,trivial⟩,⟨_,_,⟨fun h=>gK,fun h=>absurd (pB (Eg hb5 hn5) (Eg hb6 hn6) (Eg hb7 hif) (fun p=>p.2 El)) h⟩,rfl,hs⟩⟩)
  refine Wp 6 [] hs rfl ?_
  have hs:=hs.f1.f1
  exact Cl (⟨[(2,_),(19,_)],⟨rfl,rfl,trivial⟩,⟨_,_,⟨fun h=>gK,fun h=>absurd (pB (Eg hb5 hn5) (Eg hb6 hn6) (Eg hb7 hif) (fun p=>by have:=p.1;dsimp only at this;omega)) h⟩,rfl,hs⟩⟩)
 clear hs
 intro D M L w hL hI
 obtain ⟨bj,G',hj,hE,hs⟩:=hI
 cases hE
 refine Xb _ hL<|Fv rfl (fun hif=>?_) (fun hif=>?_)
 ·
  refine Wt 4 [0] hs rfl<|Ah<|Zz results221 rfl ?_
  unfold Em;rw [if_neg El]
  rw [if_pos (hj.1 hif)]
  exact ⟨_,[],hs.done,rfl,rfl⟩
 refine Wt 4 [0,0] hs rfl<|Zy hs (Yc rfl (fun h55=>?_) fun h55=>?_)
 ·
  refine Wp 3 [1,0] hs rfl<|Zg hs rfl (Co underlying127 sizeOf125 zeroValue127 rfl rfl (cs:=[_,_,_,_]) rfl<|Zg hs rfl (Rp (a:=[c0,c1,c2,c3]) (b:=[0,0,0,0]) underlying127 sizeOf125 isAgg125 underlying125 rfl rfl rfl rfl rfl hc.2 dC (fun h60=>?_) (fun h60=>?_)))
  ·
   refine Wp 8 [2,2,52,0] hs rfl<|Ah<|Zz results221 rfl ?_
   unfold Em;rw [if_neg El]
   rw [if_neg (Eg hj hif)]
   rw [if_pos ⟨by dsimp only;omega,h60⟩]
   exact ⟨_,[],hs.done,rfl,rfl⟩
  refine Wp 8 [2,2,52,0,0] hs rfl<|Zy hs (Yc rfl (fun h65=>?_) fun h65=>?_)
  ·
   refine Wp 8 [0,7,0] hs rfl<|Zy hs (Yc rfl (fun h68=>?_) fun h68=>?_)
   ·
    refine Wp 11 [0,0] hs rfl<|Ah<|Zz results221 rfl ?_
    unfold Em;rw [if_neg El]
    rw [if_neg (Eg hj hif)]
    rw [if_neg (fun h=>h.2 h60)]
    rw [if_pos El,if_pos El]
    exact ⟨_,[],hs.done,rfl,rfl⟩
   refine Wp 3 [8,0] hs rfl<|Zg hs rfl (Yc rfl (fun h72=>?_) fun h72=>?_)
   ·
    refine Wp 7 [0,0] hs rfl<|Ah<|Zz results221 rfl ?_
    unfold Em;rw [if_neg El]
    rw [if_neg (Eg hj hif)]
    rw [if_neg (fun h=>h.2 h60)]
    rw [if_pos El,if_pos El]
    exact ⟨_,[],hs.done,rfl,rfl⟩
   refine Wp 8 [0,0] hs rfl<|Ah<|Zz results221 rfl ?_
   unfold Em;rw [if_neg El]
   rw [if_neg (Eg hj hif)]
   rw [if_neg (fun h=>h.2 h60)]
   rw [if_pos El,if_neg El]
   exact ⟨_,[],hs.done,rfl,rfl⟩
  refine Wp 8 [0,7,0] hs rfl<|Zy hs (Yc rfl (fun h77=>?_) fun h77=>?_)
  ·
   refine Wp 9 [0,0] hs rfl<|Ah<|Zz results221 rfl ?_
   unfold Em;rw [if_neg El]
   rw [if_neg (Eg hj hif)]
   rw [if_neg (fun h=>h.2 h60)]
   rw [if_neg El]
   rw [if_pos El]
   exact ⟨_,[],hs.done,rfl,rfl⟩
  refine Wp 6 [0,8,0] hs rfl<|Zy hs (Yc rfl (fun h80=>?_) fun h80=>?_)
  ·
   refine Wp 7 [0,0] hs rfl<|Ah<|Zz results221 rfl ?_
   unfold Em;rw [if_neg El]
   rw [if_neg (Eg hj hif)]
   rw [if_neg (fun h=>h.2 h60)]
   rw [if_neg El]
   rw [if_pos El]
   exact ⟨_,[],hs.done,rfl,rfl⟩
  refine Wp 8 [0,7,0] hs rfl<|Zy hs (Yc rfl (fun h84=>?_) fun h84=>?_)
  ·
   refine Wp 9 [0,0] hs rfl<|Ah<|Zz results221 rfl ?_
   unfold Em;rw [if_neg El]
   rw [if_neg (Eg hj hif)]
   rw [if_neg (fun h=>h.2 h60)]
   rw [if_neg El]
   rw [if_neg El]
   rw [if_pos El]
   exact ⟨_,[],hs.done,rfl,rfl⟩
  refine Wp 6 [0,8,0] hs rfl<|Zy hs (Yc rfl (fun h87=>?_) fun h87=>?_)
  ·
   refine Wp 7 [0,0] hs rfl<|Ah<|Zz results221 rfl ?_
   unfold Em;rw [if_neg El]
   rw [if_neg (Eg hj hif)]
   rw [if_neg (fun h=>h.2 h60)]
   rw [if_neg El]
   rw [if_neg El]
   rw [if_pos El]
   exact ⟨_,[],hs.done,rfl,rfl⟩
  refine Wp 7 [0,8,0] hs rfl<|Zy hs (Yc rfl (fun h91=>?_) fun h91=>?_)
  ·
   refine Wp 5 [8,0,7,0] hs rfl<|Zg hs rfl (Yc rfl (fun h97=>?_) fun h97=>?_)
   ·
    refine Wp 8 [1,88,0] hs rfl<|Ah<|Zz results221 rfl ?_
    unfold Em;rw [if_neg El]
    rw [if_neg (Eg hj hif)]
    rw [if_neg (fun h=>h.2 h60)]
    rw [if_neg El]
    rw [if_neg El]
    rw [if_neg El]
    rw [if_pos El]
    exact ⟨_,[],hs.done,rfl,rfl⟩
   refine Wp 5 [1,88] hs rfl<|Wu 4 [0] hs rfl<|Ah<|Zz results221 rfl ?_
   unfold Em;rw [if_neg El]
   rw [if_neg (Eg hj hif)]
   rw [if_neg (fun h=>h.2 h60)]
   rw [if_neg El]
   rw [if_neg El]
   rw [if_neg El]
   rw [if_neg El]
   exact ⟨_,[],hs.done,rfl,rfl⟩
  refine Wp 11 [1,88] hs rfl<|Wu 4 [0] hs rfl<|Ah<|Zz results221 rfl ?_
  unfold Em;rw [if_neg El]
  rw [if_neg (Eg hj hif)]
  rw [if_neg (fun h=>h.2 h60)]
  rw [if_neg El]
  rw [if_neg El]
  rw [if_neg El]
  rw [if_neg El]
  exact ⟨_,[],hs.done,rfl,rfl⟩
 refine Wp 13 [2,2,52,0,0] hs rfl<|Zy hs (Yc rfl (fun h65=>?_) fun h65=>?_)
 ·
  refine Wp 8 [0,7,0] hs rfl<|Zy hs (Yc rfl (fun h68=>?_) fun h68=>?_)
  ·
   refine Wp 11 [0,0] hs rfl<|Ah<|Zz results221 rfl ?_
   unfold Em;rw [if_neg El]
   rw [if_neg (Eg hj hif)]
   rw [if_neg (fun h=>absurd h.1 El)]
   rw [if_pos El,if_pos El]
   exact ⟨_,[],hs.done,rfl,rfl⟩
  refine Wp 3 [8,0] hs rfl<|Zg hs rfl (Yc rfl (fun h72=>?_) fun h72=>?_)
  ·
   refine Wp 7 [0,0] hs rfl<|Ah<|Zz results221 rfl ?_
   unfold Em;rw [if_neg El]
   rw [if_neg (Eg hj hif)]
   rw [if_neg (fun h=>absurd h.1 El)]
   rw [if_pos El,if_pos El]
   exact ⟨_,[],hs.done,rfl,rfl⟩
  refine Wp 8 [0,0] hs rfl<|Ah<|Zz results221 rfl ?_
  unfold Em;rw [if_neg El]
  rw [if_neg (Eg hj hif)]
  rw [if_neg (fun h=>absurd h.1 El)]
  rw [if_pos El,if_neg El]
  exact ⟨_,[],hs.done,rfl,rfl⟩
 refine Wp 8 [0,7,0] hs rfl<|Zy hs (Yc rfl (fun h77=>?_) fun h77=>?_)
 ·
  refine Wp 9 [0,0] hs rfl<|Ah<|Zz results221 rfl ?_
  unfold Em;rw [if_neg El]
  rw [if_neg (Eg hj hif)]
  rw [if_neg (fun h=>absurd h.1 El)]
  rw [if_neg El]
  rw [if_pos El]
  exact ⟨_,[],hs.done,rfl,rfl⟩
 refine Wp 6 [0,8,0] hs rfl<|Zy hs (Yc rfl (fun h80=>?_) fun h80=>?_)
 ·
  refine Wp 7 [0,0] hs rfl<|Ah<|Zz results221 rfl ?_
  unfold Em;rw [if_neg El]
  rw [if_neg (Eg hj hif)]
  rw [if_neg (fun h=>absurd h.1 El)]
  rw [if_neg El]
  rw [if_pos El]
  exact ⟨_,[],hs.done,rfl,rfl⟩
 refine Wp 8 [0,7,0] hs rfl<|Zy hs (Yc rfl (fun h84=>?_) fun h84=>?_)
 ·
  refine Wp 9 [0,0] hs rfl<|Ah<|Zz results221 rfl ?_
  unfold Em;rw [if_neg El]
  rw [if_neg (Eg hj hif)]
  rw [if_neg (fun h=>absurd h.1 El)]
  rw [if_neg El]
  rw [if_neg El]
  rw [if_pos El]
  exact ⟨_,[],hs.done,rfl,rfl⟩
 refine Wp 6 [0,8,0] hs rfl<|Zy hs (Yc rfl (fun h87=>?_) fun h87=>?_)
 ·
  refine Wp 7 [0,0] hs rfl<|Ah<|Zz results221 rfl ?_
  unfold Em;rw [if_neg El]
  rw [if_neg (Eg hj hif)]
  rw [if_neg (fun h=>absurd h.1 El)]
  rw [if_neg El]
  rw [if_neg El]
  rw [if_pos El]
  exact ⟨_,[],hs.done,rfl,rfl⟩
 refine Wp 7 [0,8,0] hs rfl<|Zy hs (Yc rfl (fun h91=>?_) fun h91=>?_)
 ·
  refine Wp 5 [8,0,7,0] hs rfl<|Zg hs rfl (Yc rfl (fun h97=>?_) fun h97=>?_)
  ·
   refine Wp 8 [1,88,0] hs rfl<|Ah<|Zz results221 rfl ?_
   unfold Em;rw [if_neg El]
   rw [if_neg (Eg hj hif)]
   rw [if_neg (fun h=>absurd h.1 El)]
   rw [if_neg El]
   rw [if_neg El]
   rw [if_neg El]
   rw [if_pos El]
   exact ⟨_,[],hs.done,rfl,rfl⟩
  refine Wp 5 [1,88] hs rfl<|Wu 4 [0] hs rfl<|Ah<|Zz results221 rfl ?_
  unfold Em;rw [if_neg El]
  rw [if_neg (Eg hj hif)]
  rw [if_neg (fun h=>absurd h.1 El)]
  rw [if_neg El]
  rw [if_neg El]
  rw [if_neg El]
  rw [if_neg El]
  exact ⟨_,[],hs.done,rfl,rfl⟩
 refine Wp 11 [1,88] hs rfl<|Wu 4 [0] hs rfl<|Ah<|Zz results221 rfl ?_
 unfold Em;rw [if_neg El]
 rw [if_neg (Eg hj hif)]
 rw [if_neg (fun h=>absurd h.1 El)]
 rw [if_neg El]
 rw [if_neg El]
 rw [if_neg El]
 rw [if_neg El]
 exact ⟨_,[],hs.done,rfl,rfl⟩
theorem mH {G:Ghost} {v:Value} {l:List Ef} (hx:Rx G v l) (hl:l.length≤1000000000) :
  Ai prog 194 [v] G [] fun r _ H'=>H'=[]∧r=Vi (Kj l):=by
 obtain ⟨A,cap,rfl⟩:=Be.slice hx
 refine Ai.of_T [(0,_)] func194 rfl ntmps194 sM rfl fun w0 hs=>?_
 have hx0:=hx
 refine Wt 10 [0] hs rfl<|Zy hs (Yc rfl (fun h12=>?_) fun h12=>?_)
 ·
  refine Wp 7 [0,0] hs rfl<|Ah<|Zz results194 rfl ?_
  rw [rS oM]
  exact ⟨_,[],hs.done,rfl,rfl⟩
 refine Wp 7 [0] hs rfl<|Zy hs (Yc rfl (fun h16=>?_) fun h16=>?_)
 ·
  refine Wp 7 [0,0] hs rfl<|Ah<|Zz results194 rfl ?_
  rw [rT oM]
  exact ⟨_,[],hs.done,rfl,rfl⟩
 refine Wp 8 [0] hs rfl<|O_s (Fx (n:=l.length) (m:=l.length) hs underlying33 Lb rfl rfl rfl oM oM oM fun b19 _ hs =>Wp 9 [0,0] hs rfl<|Zl [0,3,20,21,22] (fun m E w=>∃ (k:Nat) (cs:List Nat) (G':Ghost),k≤l.length∧cs=(l.take k).foldl Nb (List.replicate l.length 0)∧Rz 0 l=Rz k (l.drop k)∧cs.length=l.length∧(∀ x∈cs,x≤2*k)∧m=l.length-k∧E=⟨[],[(0,(.slice A l.length cap)),(3,Vs b19 l.length l.length),(20,(.slice A l.length cap)),(21,Vi ((l.length:Nat):Int)),(22,Vi (k:Int))]⟩∧St ⟨w0,G,Bl []⟩ G' [.row 3 1 (Vs b19 l.length l.length) l.length (cs.map natW)] w) rfl (⟨0,List.replicate l.length 0,_,by omega,rfl,rfl,by simp,fun x hx=>by rw [List.eq_of_mem_replicate hx];exact Nat.zero_le _,rfl,rfl,by rw [List.map_replicate];exact hs⟩) fun m E w hI=>?_)
 obtain ⟨k,cs,G',hk,hcs,herr,hcl,hcb,rfl,rfl,hs⟩:=hI
 have hx:=hx0.mono hs.le
 refine Wt 2 [] hs rfl<|Zy hs (Yc rfl (fun h23=>?_) fun h23=>?_)
 ·
  refine Wp 9 [0] hs rfl<|Zy hs (Bv hx k underlying133 sizeOf172 rfl rfl rfl oM fun p25 c25 hp25 hc25 hR25=>?_)
  obtain ⟨rfl,hco⟩:=hR25
  obtain ⟨nk,hnk⟩:∃ n,n=l[k]:=⟨_,rfl⟩
  rw [← hnk] at hp25 hco
  obtain ⟨kd,cc,ll,rr,mn,mx⟩:=nk
  obtain ⟨c0,c1,c2,c3,rfl⟩:=Mj hco.1
  refine Zy hs (Cu (vs:=[Vi kd,Af c0,Af c1,Af c2,Af c3,Vi ll,Vi rr,Vi mn,Vi mx]) isAgg172 sizeOf172 rfl hp25 rfl<|O_s (Sa hs zeroValue172 rfl fun b5 _ hs=>Wp 1 [] hs rfl<|O_n (Sg hs rfl (rfl) fun _ hs=>Wp 6 [0,0] hs rfl<|O_s (Sc (chk_ok (n:=⟨kd,[c0,c1,c2,c3],ll,rr,mn,mx⟩) (i:=k) hco) hs rfl fun v1 G' H' _ hR hG29 hs=>?_))))
  obtain ⟨rfl,rfl⟩:=hR
  replace hs:=hs.n rfl
  replace hx:=hx.mono hG29
  refine Wp 5 [0] hs rfl<|Zy hs (Yc rfl (fun h31=>?_) fun h31=>?_)
  ·
   refine Wp 7 [0,0] hs rfl<|Ah<|Zz results194 rfl ?_
   have he:=vP (l:=l) (k:=k) oM (by rw [← hnk];exact h31)
   rw [rU oM oM (by rw [herr,he,← hnk];exact h31),herr,he,← hnk]
   exact ⟨_,[],hs.done,rfl,rfl⟩
  refine Wp 3 [0] hs rfl ?_
  have hne:Em ⟨kd,[c0,c1,c2,c3],ll,rr,mn,mx⟩ k=0:=by omega
  refine Wu 5 [0,0] hs rfl<|O_s (Sc (eX) hs rfl fun v2 G' H' _ hR hG35 hs=>?_)
  obtain ⟨rfl,rfl⟩:=hR
  replace hs:=hs.n rfl
  replace hx:=hx.mono hG35
  refine Zy hs (Yc rfl (fun h36=>?_) fun h36=>?_)
  ·
   refine Wp 1 [0] hs rfl ?_
   have hop:=ops_l (dD hne) El
   dsimp only at hop
   obtain ⟨L,rfl⟩:∃ L:Nat,ll=(L:Int):=Int.eq_ofNat_of_zero_le hop.1
   have hL:L<cs.length:=by omega
   refine Wu 5 [5,0] hs rfl<|Zy hs (Bj (L) underlying33 sizeOf3 rfl rfl rfl oM<|Zy hs (Dg 1 rfl isAgg3 rfl (by rw [List.getElem?_map,List.getElem?_eq_getElem hL];rfl) ?_))
   refine Zy hs (Eb (c:=((cs[L]'hL+1:Nat):Int)) rfl rfl oM (by have:=hcb _ (List.getElem_mem hL);omega)<|Zy hs (Bj (L) underlying33 sizeOf3 rfl rfl rfl oM<|O_n (Ct hs.f1 sizeOf3 rfl rfl rfl oM fun _ hs =>Wp 1 [6,0,3,5,20,21,22] hs rfl ?_)))
   rw [oK hL] at hs
   refine Wu 4 [0,1] hs rfl<|O_s (Sc (eX) hs rfl fun v3 G' H' _ hR hG46 hs=>?_)
   obtain ⟨rfl,rfl⟩:=hR
   replace hs:=hs.n rfl
   replace hx:=hx.mono hG46
   refine Zy hs (Yc rfl (fun h47=>?_) fun h47=>?_)
   ·
    refine Wp 1 [0] hs rfl ?_
    have hop2:=ops_r (dD hne) El
    dsimp only at hop2
    obtain ⟨R,rfl⟩:∃ R:Nat,rr=(R:Int):=Int.eq_ofNat_of_zero_le hop2.1
    have hR:R<(cs.modify L (·+1)).length:=by rw [List.length_modify];omega
    refine Wu 5 [6,1] hs rfl<|Zy hs (Bj (R) underlying33 sizeOf3 rfl rfl rfl oM<|Zy hs (Dg 0 rfl isAgg3 rfl (by rw [List.getElem?_map,List.getElem?_eq_getElem hR];rfl) ?_))
    refine Zy hs (Eb (c:=(((cs.modify L (·+1))[R]'hR+1:Nat):Int)) rfl rfl oM (by have:=mod_le hcb _ (List.getElem_mem hR);omega)<|Zy hs (Bj (R) underlying33 sizeOf3 rfl rfl rfl oM<|O_n (Ct hs sizeOf3 rfl rfl rfl oM fun _ hs =>Wp 1 [0] hs rfl ?_)))
    rw [oK hR] at hs
    refine Zr<|Zy hs (Ya (s:=((k+1:Nat):Int)) rfl<|Wp 1 [] hs rfl<|Zx [0,3,20,21,22] rfl ⟨k+1,Nb cs l[k],_,by omega,by rw [Dc _ _ _ _ oM,← hcs],by rw [herr];exact Ug oM (by rw [← hnk];exact hne),by rw [Uf];exact hcl,fun x hx=>by have:=Zw hcb x hx;omega,rfl,rfl,by rw [← hnk];unfold Nb;rw [if_pos El];exact hs.weak hs.le (gLr _) (lSa [_] _)⟩)
   refine Wp 4 [0] hs rfl<|Zy hs (Ya (s:=((k+1:Nat):Int)) rfl<|Wp 1 [] hs rfl<|Zx [0,3,20,21,22] rfl ⟨k+1,Nb cs l[k],_,by omega,by rw [Dc _ _ _ _ oM,← hcs],by rw [herr];exact Ug oM (by rw [← hnk];exact hne),by rw [Uf];exact hcl,fun x hx=>by have:=Zw hcb x hx;omega,rfl,rfl,by rw [← hnk];unfold Nb;rw [if_neg El,if_pos El];exact hs.weak hs.le (gLr _) (lSa [_] _)⟩)
  refine Wp 7 [0,0,0] hs rfl<|O_s (Sc (eX) hs rfl fun v4 G' H' _ hR hG46 hs=>?_)
  obtain ⟨rfl,rfl⟩:=hR
  replace hs:=hs.n rfl
  replace hx:=hx.mono hG46
  refine Zy hs (Di rfl rfl rfl oM<|Wp 4 [7,0,3,5,20,21,22,47] hs rfl<|Zy hs (Ya (s:=((k+1:Nat):Int)) rfl<|Wp 1 [] hs rfl ?_))
  have hs:=hs.f1
  refine Zx [0,3,20,21,22] rfl ⟨k+1,Nb cs l[k],_,by omega,by rw [Dc _ _ _ _ oM,← hcs],by rw [herr];exact Ug oM (by rw [← hnk];exact hne),by rw [Uf];exact hcl,fun x hx=>by have:=Zw hcb x hx;omega,rfl,rfl,by rw [← hnk];unfold Nb;rw [if_neg El,if_neg El];exact hs.weak hs.le (gLr _) (lSa [_] _)⟩
 refine Wp 4 [0] hs rfl ?_
 obtain rfl:k=l.length:=by omega
 rw [List.take_length] at hcs
 have hcs':cntF l=cs:=hcs.symm
 rw [List.drop_length] at herr
 have h0e:Rz 0 l=0:=herr
 obtain ⟨_,hG17,hsl,hs⟩:=hs.fixRow noM
 have hI:=vO hsl oM
 refine Wu 6 [] hs rfl<|Zy hs (Fc (c:=((l.length-1:Nat):Int)) rfl rfl oM oM<|Zy hs (Nt hI 0 (l.length-1) underlying33 sizeOf3 rfl rfl ⟨_,_,rfl,rfl⟩ oM kZ fun s60 hs60=>?_))
 obtain ⟨A60,c60,rfl,_⟩:=id hs60
 refine Wp 3 [0] hs rfl<|Zl [60,61,62] (fun m E w=>∃ (j:Nat) (G':Ghost),j≤l.length-1∧(∀ i,i<j→cs.getD i 0=1)∧Bt G' (.slice A60 (((cs.map fun n:Nat=>(n:Int)).drop 0).take (l.length-1-0)).length c60) (((cs.map fun n:Nat=>(n:Int)).drop 0).take (l.length-1-0))∧m=l.length-1-j∧E=⟨[],[(60,.slice A60 (((cs.map fun n:Nat=>(n:Int)).drop 0).take (l.length-1-0)).length c60),(61,Vi ((((cs.map fun n:Nat=>(n:Int)).drop 0).take (l.length-1-0)).length:Int)),(62,Vi (j:Int))]⟩∧St ⟨w0,G,Bl []⟩ G' [] w) rfl (⟨0,_,by omega,fun i hi=>absurd hi oM,hs60,rfl,rfl,hs⟩) fun m E w hI=>?_
 obtain ⟨j,G',hj,hone,hsj,rfl,rfl,hs⟩:=hI
 have hx:=hx0.mono hs.le
 have hlen:(((cs.map fun n:Nat=>(n:Int)).drop 0).take (l.length-1-0)).length=l.length-1:=by rw [List.length_take,List.length_drop,List.length_map];omega
 refine Wt 2 [] hs rfl<|Zy hs (Yc rfl (fun h63=>?_) fun h63=>?_)
 ·
  refine Wp 8 [0] hs rfl<|Zy hs (Dl hsj j underlying33 sizeOf3 rfl rfl rfl oM fun p64 hp64 =>Zy hs (Yg rfl (hp64)<|Wp 5 [0] hs rfl ?_))
  have hel:(((cs.map fun n:Nat=>(n:Int)).drop 0).take (l.length-1-0))[j]'oM=((cs[j]'oM:Nat):Int):=by simp
  refine Zy hs (Yc rfl (fun h67=>?_) fun h67=>?_)
  ·
   refine Wp 6 [0,0] hs rfl<|Ah<|Zz results194 rfl ?_
   rw [dE oM oM h0e,hcs',vR (i:=j) oM oM (fun h=>h67 (by rw [hel];omega))]
   exact ⟨_,[],hs.done,rfl,rfl⟩
  refine Wp 4 [0] hs rfl<|Zy hs (Ya (s:=((j+1:Nat):Int)) rfl<|Wp 1 [] hs rfl ?_)
  have h1j:cs.getD j 0=1:=by rw [List.getD_eq_getElem?_getD,List.getElem?_eq_getElem oM,Option.getD_some];omega
  refine Zx [60,61,62] rfl ⟨j+1,_,by omega,fun i hi=>(Nat.lt_or_ge i j).elim (hone i) (fun h'=>by rw [show i=j by omega];exact h1j),hsj,rfl,rfl,hs⟩
 refine Wp 4 [0] hs rfl<|Wu 4 [0] hs rfl<|Ah<|Zz results194 rfl ?_
 rw [dE oM oM h0e,hcs',vQ (m:=l.length-1) (fun i hi=>hone i oM)]
 exact ⟨_,[],hs.done,rfl,rfl⟩
theorem TI250:TI prog 250 (.agg #[Vn,Vn,Vn]) 3 72:=TI.of kR
theorem wU {G:Ghost} {D:My} {lv:Value} {c0 c1 c2 c3 p0 p1 p2 p3 q0 q1 q2 q3:Nat} {x y:UInt8} (hwc:∀ w∈[c0,c1,c2,c3],w<W64) (hp:Gz (Je [0,0,0,0]) [c0,c1,c2,c3]=[p0,p1,p2,p3]) (hq:Lc (Je [0,0,0,0]) [c0,c1,c2,c3]=[q0,q1,q2,q3]) (hp0:[p0,p1,p2,p3]≠[0,0,0,0]) (hq0:[q0,q1,q2,q3]≠[0,0,0,0]) (hwp:∀ w∈[p0,p1,p2,p3],w<W64) (hwq:∀ w∈[q0,q1,q2,q3],w<W64) (hT:Tab G) (hx:(Bu [p0,p1,p2,p3])[0]?=some x) (hy:(Bu [q0,q1,q2,q3])[0]?=some y) (hlt:y.toNat<x.toNat) (hsz:Mx [c0,c1,c2,c3]≠0) (hhx:Vv [c0,c1,c2,c3] x=true) (hhy:Vv [c0,c1,c2,c3] y=false) (hv:Hm (Lt [p0,p1,p2,p3] [q0,q1,q2,q3])=true) (hok:(Cf (Lt [p0,p1,p2,p3] [q0,q1,q2,q3])).ok) (hD:Eu (Cf (Lt [p0,p1,p2,p3] [q0,q1,q2,q3]))=some D) :
  Ai prog 195 [.agg #[Vi 3,Af c0,Af c1,Af c2,Af c3,Vi 0,Vi 0,Vi 0,Vi 0],lv] G [] fun r G' H'=>H'=[]∧∃ vd,r=.tuple #[vd,Vi 0]∧Oh G' vd D:=by
 refine Ai.of_T [(0,_),(1,_)] func195 rfl ntmps195 sM rfl fun w0 hs=>?_
 have hT0:=hT
 refine Wt 2 [] hs rfl<|O_s (Sb hs rfl fun b2 _ hs=>O_s (Sa hs zeroValue250 rfl fun b4 _ hs=>Wp 31 [0,0,1,0,0,0,0,1,1] hs rfl<|O_s (Sc (lett_ok hwc hp hq hp0 hq0 hwp hwq hT hx hy hlt hsz hhx hhy hv hok hD) hs rfl fun v1 G' H' _ hR hG22 hs=>?_)))
 obtain ⟨rfl,vd,rfl,hz⟩:=hR
 replace hs:=hs.n rfl
 obtain ⟨zc,zn,za,rfl,hzC,hzN,hzA⟩:=hz
 obtain ⟨Cz,cz,rfl⟩:=Be.slice hzC
 obtain ⟨Nz,nz,rfl⟩:=Be.slice hzN
 obtain ⟨Az,az,rfl,_⟩:=id hzA
 refine Wp 2 [] hs rfl<|O_n (Sg hs rfl (rfl) fun _ hs=>Wp 2 [0] hs rfl<|Ah ?_)
 have hr:=hs
 refine Bi (vs:=[_,_]) results195 rfl ⟨Bk 0 hr isAgg250 sizeOf250 rfl (cs:=[_,_,_]) rfl rfl,rfl,trivial⟩ ?_
 try dsimp only [tup]
 exact ⟨_,[],hs.done,rfl,_,rfl,_,_,_,rfl,hzC,hzN,hzA⟩
theorem wV {G:Ghost} {bl:Nat} {Ac An Aa:Option Addr} {cc cn ca:Nat} {d E0 D2 D:My} (hC0:Pt G (.slice Ac d.cls.length cc) d.cls) (hN:LN G (.slice An d.next.length cn) d.next) (hA:Hq G (.slice Aa d.acc.length ca) d.acc) (hT:Tab G) (hok:Io.ok) (hE:Eu Io=some E0) (hS:dP d=some D2) (hC:dQ E0 D2=some D) :
  Ai prog 195 [.agg #[Vi 8,Af 0,Af 0,Af 0,Af 0,Vi 0,Vi 0,Vi 0,Vi (-1)],Vs bl 2 2] G [.blk bl 250 [.slice Ac d.cls.length cc,.slice An d.next.length cn,.slice Aa d.acc.length ca,Vn,Vn,Vn]] fun r G' H'=>H'=[.blk bl 250 [.slice Ac d.cls.length cc,.slice An d.next.length cn,.slice Aa d.acc.length ca,Vn,Vn,Vn]]∧∃ vd,r=.tuple #[vd,Vi 0]∧Oh G' vd D:=by
 refine Ai.of_T [(0,_),(1,_)] func195 rfl ntmps195 sM rfl fun w0 hs=>?_
 have hC00:=hC0
 have hN0:=hN
 have hA0:=hA
 have hT0:=hT
 refine Wt 2 [] hs rfl<|O_s (Sb hs rfl fun b2 _ hs=>O_s (Sa hs zeroValue250 rfl fun b4 _ hs=>Wp 53 [0,0,1,0,0,0,0,0,0,0,4,1,2,4,70] hs rfl<|Bc [0,1,2,3,4,5,6,7,8,9,10,11] hs kR ?_))
 replace hs:=hs.drew
 refine Xr [0,1,2] [5,1] hs rfl<|Xt 3 hs rfl (Lk 0 underlying271 sizeOf250 rfl rfl rfl dC (m:=0) rfl<|Xr [4,5,6,7,8] [2,7,1,8,1] hs rfl ?_)
 have hle:=hs.le
 refine Xo 9 rfl (Sc (rept_ok ⟨_,_,_,rfl,hC0,hN,hA⟩ hT hok hE hS hC) hs rfl fun v1 G' H' _ hR hG89 hs=>?_)
 obtain ⟨rfl,vd,rfl,hz⟩:=hR
 replace hs:=hs.n rfl
 obtain ⟨zc,zn,za,rfl,hzC,hzN,hzA⟩:=hz
 obtain ⟨Cz,cz,rfl⟩:=Be.slice hzC
 obtain ⟨Nz,nz,rfl⟩:=Be.slice hzN
 obtain ⟨Az,az,rfl,_⟩:=id hzA
 refine Am hs hle hG89 (lSr _)<|Xr [10,11] [] hs rfl<|Xn 12 rfl (Sg hs rfl (rfl) fun _ hs=>Xa 13 rfl (S_y hs rfl (Yq rfl<|Xe (Zk [4,5] rfl<|Ah ?_))))
 have hs:=hs.f2
 have hr:=hs
 refine Bi (vs:=[_,_]) results195 rfl ⟨Bk 1 hr isAgg250 sizeOf250 rfl (cs:=[_,_,_]) rfl rfl,rfl,trivial⟩ ?_
 try dsimp only [tup]
 exact ⟨_,_,hs.weak hs.le (gLr _) (lSa [_] _),rfl,_,rfl,_,_,_,rfl,hzC,hzN,hzA⟩
theorem wW {G:Ghost} {D E0 D2 D3:My} {v:Value} {c0 c1 c2 c3 p0 p1 p2 p3 q0 q1 q2 q3:Nat} {x y:UInt8} (hwc:∀ w∈[c0,c1,c2,c3],w<W64) (hp:Gz (Je [0,0,0,0]) [c0,c1,c2,c3]=[p0,p1,p2,p3]) (hq:Lc (Je [0,0,0,0]) [c0,c1,c2,c3]=[q0,q1,q2,q3]) (hp0:[p0,p1,p2,p3]≠[0,0,0,0]) (hq0:[q0,q1,q2,q3]≠[0,0,0,0]) (hwp:∀ w∈[p0,p1,p2,p3],w<W64) (hwq:∀ w∈[q0,q1,q2,q3],w<W64) (hT:Tab G) (hx:(Bu [p0,p1,p2,p3])[0]?=some x) (hy:(Bu [q0,q1,q2,q3])[0]?=some y) (hlt:y.toNat<x.toNat) (hsz:Mx [c0,c1,c2,c3]≠0) (hhx:Vv [c0,c1,c2,c3] x=true) (hhy:Vv [c0,c1,c2,c3] y=false) (hv:Hm (Lt [p0,p1,p2,p3] [q0,q1,q2,q3])=true) (hok:(Cf (Lt [p0,p1,p2,p3] [q0,q1,q2,q3])).ok) (hD:Eu (Cf (Lt [p0,p1,p2,p3] [q0,q1,q2,q3]))=some D) (hok2:Io.ok) (hE:Eu Io=some E0) (hS:dP D=some D2) (hC:dQ E0 D2=some D3) (hr:Rx G v (Dy [c0,c1,c2,c3])) (hrv:Kj (Dy [c0,c1,c2,c3])=0) :
  Ai prog 167 [v] G [] fun r G' H'=>H'=[]∧∃ vd,r=.tuple #[vd,Vi 0]∧Oh G' vd D3:=by
 obtain ⟨Ar,cr,rfl⟩:∃ A c,v=.slice A 2 c:=Be.slice hr
 change Rx _ (.slice Ar 2 cr) _ at hr
 refine Ai.of_T [(0,_)] func167 rfl ntmps167 sM rfl fun w0 hs=>?_
 have hr0:=hr
 have hT0:=hT
 refine Wt 2 [] hs rfl<|O_s (Sa hs zeroValue250 rfl fun b2 _ hs=>Wp 6 [0] hs rfl<|O_s (Sc (mH hr (show 2≤1000000000 by decide)) hs rfl fun v1 G' H' _ hR hG11 hs=>?_))
 obtain ⟨rfl,rfl⟩:=hR
 replace hs:=hs.n rfl
 replace hr:=hr.mono hG11
 replace hT:=hT.mono hG11
 rw [hrv]
 refine Wp 13 [0,0] hs rfl<|O_s (nY (n:=2) hs underlying271 TI250 rfl rfl dC dC (cs:=[Vn,Vn,Vn,Vn,Vn,Vn]) kR fun b18 _ hs =>Wp 9 [0,0] hs rfl<|Dp (Ej 3 (L:=[(2,_),(5,_),(19,_),(20,_),(21,_)]) ⟨rfl,rfl,rfl,rfl,rfl,trivial⟩ (Gn<|Wt 12 [0] hs rfl<|Zy hs (Bv hr 0 underlying133 sizeOf172 rfl rfl rfl (by show _<2;decide) fun p24 c24 hp24 hc24 hR24 =>Zy hs (Cu (vs:=[Vi 3,Af c0,Af c1,Af c2,Af c3,Vi 0,Vi 0,Vi 0,Vi 0]) isAgg172 sizeOf172 rfl (by have h:=hp24;rw [hR24.1] at h;exact h) rfl<|O_s (Sa hs zeroValue172 rfl fun b7 _ hs=>Wp 1 [] hs rfl<|O_n (Es hs sizeOf172 rfl rfl (vs:=[_,_,_,_,_,_,_,_,_]) rfl (rfl) sM (cs':=[_,_,_,_,_,_,_,_,_]) rfl fun _ hs =>Wp 5 [0,0] hs rfl<|O_s (Sc (wU hwc hp hq hp0 hq0 hwp hwq hT hx hy hlt hsz hhx hhy hv hok hD) hs rfl fun v2 G' H' _ hR hG29 hs=>?_))))))))
 obtain ⟨rfl,vd,rfl,hk⟩:=hR
 replace hs:=hs.n rfl
 replace hr:=hr.mono hG29
 replace hT:=hT.mono hG29
 obtain ⟨kc,kn,ka,rfl,hkC,hkN,hkA⟩:=hk
 obtain ⟨Ck,ck,rfl⟩:=Be.slice hkC
 obtain ⟨Nk,nk,rfl⟩:=Be.slice hkN
 obtain ⟨Ak,ak,rfl,_⟩:=id hkA
 refine Wp 3 [] hs rfl<|O_s (Sa hs zeroValue250 rfl fun b8 _ hs=>O_n (Es hs sizeOf250 rfl rfl (vs:=[_,_,_]) rfl (rfl) sM (cs':=[_,_,_]) rfl fun _ hs =>Wp 14 [0,0,0] hs rfl<|Zy hs (Lk 0 underlying271 sizeOf250 rfl rfl rfl dC (m:=0) rfl<|O_n (Es hs.f2 sizeOf250 rfl rfl (vs:=[_,_,_]) rfl (rfl) sM (cs':=[_,_,_,_,_,_]) rfl fun _ hs =>Wp 2 [5,2,5,19,20,21] hs rfl<|Zy hs (Eb (c:=(1)) rfl rfl dC dC<|Wp 1 [] hs rfl<|Cl ⟨[(2,_),(5,_),(19,_),(20,_),(21,_)],⟨rfl,rfl,rfl,rfl,rfl,trivial⟩,Gn ?_⟩)))))
 refine Wt 12 [0] hs rfl<|Zy hs (Bv hr 1 underlying133 sizeOf172 rfl rfl rfl (by show _<2;decide) fun p24 c24 hp24 hc24 hR24 =>Zy hs (Cu (vs:=[Vi 8,Af 0,Af 0,Af 0,Af 0,Vi 0,Vi 0,Vi 0,Vi (-1)]) isAgg172 sizeOf172 rfl (by have h:=hp24;rw [hR24.1] at h;exact h) rfl<|O_s (Sa hs zeroValue172 rfl fun b7 _ hs=>Wp 1 [] hs rfl<|O_n (Es hs sizeOf172 rfl rfl (vs:=[_,_,_,_,_,_,_,_,_]) rfl (rfl) sM (cs':=[_,_,_,_,_,_,_,_,_]) rfl fun _ hs =>Wp 5 [0,0] hs rfl<|O_s (Sc (wV hkC hkN hkA hT hok2 hE hS hC) hs.f1 rfl fun v3 G' H' _ hR hG29 hs=>?_)))))
 obtain ⟨rfl,vd,rfl,hz⟩:=hR
 replace hs:=hs.n rfl
 replace hr:=hr.mono hG29
 obtain ⟨zc,zn,za,rfl,hzC,hzN,hzA⟩:=hz
 obtain ⟨Cz,cz,rfl⟩:=Be.slice hzC
 obtain ⟨Nz,nz,rfl⟩:=Be.slice hzN
 obtain ⟨Az,az,rfl,_⟩:=id hzA
 refine Wp 3 [] hs rfl<|O_s (Sa hs zeroValue250 rfl fun b8 _ hs=>O_n (Es hs sizeOf250 rfl rfl (vs:=[_,_,_]) rfl (rfl) sM (cs':=[_,_,_]) rfl fun _ hs =>Wp 14 [0,0,0] hs rfl<|Zy hs (Lk 1 underlying271 sizeOf250 rfl rfl rfl dC (m:=3) rfl<|O_n (Es hs.f1 sizeOf250 rfl rfl (vs:=[_,_,_]) rfl (rfl) sM (cs':=[_,_,_,_,_,_]) rfl fun _ hs =>Wp 2 [5,2,5,19,20,21] hs rfl<|Zy hs (Eb (c:=(2)) rfl rfl dC dC<|Wp 1 [] hs rfl<|Cl ⟨[(2,_),(5,_),(19,_),(20,_),(21,_)],⟨rfl,rfl,rfl,rfl,rfl,trivial⟩,Gn ?_⟩)))))
 refine Wt 7 [0] hs rfl<|Wu 5 [] hs rfl<|Zy hs (Fc (c:=(1)) rfl rfl dC dC<|Zy hs (Lk 1 underlying271 sizeOf250 rfl rfl rfl dC (m:=3) rfl<|Wp 1 [0] hs rfl<|O_n (Es hs.f5 sizeOf250 rfl rfl (vs:=[_,_,_]) rfl (rfl) sM (cs':=[_,_,_]) rfl fun _ hs =>Wp 2 [0] hs rfl<|Ah ?_)))
 have hr:=hs
 refine Bi (vs:=[_,_]) results167 rfl ⟨Bk 0 hr isAgg250 sizeOf250 rfl (cs:=[_,_,_]) rfl rfl,rfl,trivial⟩ ?_
 try dsimp only [tup]
 exact ⟨_,[],hs.done,rfl,_,rfl,_,_,_,rfl,hzC,hzN,hzA⟩
end Go.Proofs.YtngdgnolkilheaaGreatDoor
