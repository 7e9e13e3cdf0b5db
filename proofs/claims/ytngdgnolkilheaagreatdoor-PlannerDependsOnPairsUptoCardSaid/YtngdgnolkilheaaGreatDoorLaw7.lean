/- The walk of the law PlannerDependsOnPairs: the call returns true, whatever its arguments read, and changes nothing. -/
import Derived.Test.YtngdgnolkilheaaGreatDoorMI
set_option maxHeartbeats 4000000
set_option maxRecDepth 10000
set_option linter.unusedVariables false
set_option linter.unusedSimpArgs false
set_option linter.unusedSectionVars false
namespace Go.Proofs.YtngdgnolkilheaaGreatDoor
open Go Go.Ex Go.RowKit Go.Proofs.Tryz
open Pl
theorem ldop_ok {G:Ghost} {sz p0 p1 p2 p3 n0 n1 n2 n3 n4:UInt8} {ed r0 r1 r2:Nat} {Aw Aq:Option Addr} {cw cq:Nat} {nw:List UInt8} {sf:List Nat} {pk pc:Nat} (hT:Tab G) (hnw:Da G (.slice Aw nw.length cw) nw) (hsq:U16s G (.slice Aq sf.length cq) sf) (he:ed<4294967296) (h0:r0<65536) (h1:r1<65536) (h2:r2<65536) (hp6:pk<65536) (hc6:pc<65536) :
  Ai prog 7 [.agg #[.int .u8 (sz.toNat:Int),.int .u8 (p0.toNat:Int),.int .u8 (p1.toNat:Int),.int .u8 (p2.toNat:Int),.int .u8 (p3.toNat:Int),.int .u8 (n0.toNat:Int),.int .u8 (n1.toNat:Int),.int .u8 (n2.toNat:Int),.int .u8 (n3.toNat:Int),.int .u8 (n4.toNat:Int),.int .u32 (ed:Int),.int .u16 (r0:Int),.int .u16 (r1:Int),.int .u16 (r2:Int),.slice Aw nw.length cw,.slice Aq sf.length cq],.agg #[.int .u16 (pk:Int),.int .u16 (pc:Int)]] G [] fun r _ H'=>H'=[]∧r=Vt:=by
 obtain ⟨f,hfe⟩:∃ z,z=Gc (aY sz p0 p1 p2 p3 n0 n1 n2 n3 n4 ed r0 r1 r2):=⟨_,rfl⟩
 obtain ⟨nv,hnv⟩:∃ z,z=tH f nw:=⟨_,rfl⟩
 obtain ⟨s,hse⟩:∃ z,z=sfM sf f.progs.length:=⟨_,rfl⟩
 have hk:kE f nv:=by rw [hnv,hfe];exact nvM_ok (fT (sz:=sz) (p0:=p0) (p1:=p1) (p2:=p2) (p3:=p3) (n0:=n0) (n1:=n1) (n2:=n2) (n3:=n3) (n4:=n4) (ed:=ed) (r0:=r0) (r1:=r1) (r2:=r2) h0 h1 h2)
 have hso:SOk f s:=by rw [hse];exact sfM_ok
 obtain ⟨u,hU⟩:=used_ex f
 have hu12:=kJ hU hk.r
 have hu6:=hk.u
 refine Ai.of_T [(0,_),(1,_)] func7 rfl ntmps7 sM rfl fun w0 hs=>?_
 have hnw0:=hnw
 have hsq0:=hsq
 have hT0:=hT
 refine Wt 2 [] hs rfl<|O_s (Sb hs rfl fun b2 _ hs=>O_s (Sb hs rfl fun b3 _ hs=>Wp 4 [0] hs rfl<|O_s (Sc (san31_ok hT) hs rfl fun v1 G' H' _ hR hG15 hs=>?_)))
 obtain ⟨rfl,rfl⟩:=hR
 replace hs:=hs.n rfl
 replace hnw:=hnw.mono hG15
 replace hsq:=hsq.mono hG15
 replace hT:=hT.mono hG15
 refine Wp 5 [0,1] hs rfl<|O_s (Sc (rmd1_ok hfe hnv hse hnw hsq he h0 h1 h2) hs rfl fun v2 G' H' _ hR hG18 hs=>?_)
 obtain ⟨rfl,Ap,An,Ae,Ar,cp,cn,ce,cr,Au,cu,vs,rfl,hf,hu,hS⟩:=hR
 replace hs:=hs.n rfl
 replace hnw:=hnw.mono hG18
 replace hsq:=hsq.mono hG18
 replace hT:=hT.mono hG18
 obtain ⟨As,cs,rfl⟩:=Be.slice hS
 refine Wp 3 [] hs rfl<|O_s (Sa hs zeroValue45 rfl fun b6 _ hs=>O_n (Sg hs rfl (rfl) fun _ hs=>Wp 5 [0,0] hs rfl<|Zy hs (Dq 0 underlying36 sizeOf25 rfl rfl rfl dC (m:=0) rfl<|Wp 1 [1] hs rfl<|Zy hs (Dq 1 underlying36 sizeOf25 rfl rfl rfl dC (m:=1) rfl<|Wp 1 [1] hs rfl<|O_s (Sc (plan_ok hf hu hk hp6 hc6) hs rfl fun v3 G' H' _ hR hG26 hs=>?_)))))
 obtain ⟨rfl,Aoq,Acq,coq,ccq,oq,q,rfl,hqin,hq16,hqN,hqI⟩:=hR
 replace hs:=hs.n rfl
 replace hnw:=hnw.mono hG26
 replace hsq:=hsq.mono hG26
 replace hT:=hT.mono hG26
 replace hf:=hf.mono hG26
 replace hu:=hu.mono hG26
 replace hS:=hS.mono hG26
 obtain ⟨hqoin,hqol⟩:=zL rfl hqin
 refine O_s (Sa hs zeroValue35 rfl fun b8 _ hs=>O_n (Sg hs rfl (rfl) fun _ hs=>Wp 5 [4,5,6,7,8,1,0] hs rfl<|O_s (Sc (nedd_ok hf hu hqN hqI hU oM oM hk hT (ned_len oM hu12)) hs rfl fun v4 G' H' _ hR hG30 hs=>?_)))
 obtain ⟨rfl,vq,pq,e30,rfl,hEd,hq1,hq0,hqf⟩:=hR
 replace hs:=hs.n rfl
 replace hnw:=hnw.mono hG30
 replace hsq:=hsq.mono hG30
 replace hT:=hT.mono hG30
 replace hf:=hf.mono hG30
 replace hu:=hu.mono hG30
 replace hS:=hS.mono hG30
 replace hqN:=hqN.mono hG30
 replace hqI:=hqI.mono hG30
 have hpl:=lst_len hEd
 obtain ⟨Ap30,cp30,rfl⟩:=Be.slice hEd
 refine Wp 11 [0,1,0] hs rfl<|O_s (Sc (Wv hf hu hS hqN hqI hU oM oM hk hT hso) hs rfl fun v5 G' H' _ hR hG37 hs=>?_)
 obtain ⟨rfl,n37,e37,rfl,k0,k310,k1,kn⟩:=hR
 replace hs:=hs.n rfl
 replace hnw:=hnw.mono hG37
 replace hsq:=hsq.mono hG37
 replace hT:=hT.mono hG37
 replace hS:=hS.mono hG37
 replace hEd:=hEd.mono hG37
 refine Wp 10 [0] hs rfl<|Zy hs (Yc rfl (fun h41=>?_) fun h41=>?_)
 ·
  have hnf:¬ Ih f nv u oq q:=fun h=>h41 (hq0.2 h)
  have he30:=hq1.2 hnf
  have he37:=k1.2 hnf
  refine Wp 5 [0] hs rfl<|Zy hs (Hl rfl rfl rfl oM<|Wp 2 [] hs rfl<|Zg hs rfl (Hl rfl rfl rfl oM<|Wp 6 [1,4] hs rfl<|Ah<|Zz results7 rfl ?_))
  exact ⟨_,[],hs.done,rfl,rfl⟩
 have hform:=hq0.1 oM
 obtain ⟨hsl,hpn,hpm⟩:=hqf hform
 have hsall:=zW (f:=f) (nv:=nv) (u:=u) (s:=s) (o:=oq) (cl:=q)
 refine Wp 12 [0,0,6,5,7,9,12,13,14] hs rfl ?_
 have hs:=hs.f3.f3.f3.f3
 obtain ⟨Gp0,hGp⟩:=hs.name
 subst hGp
 have hS_0:=hS
 have hEd_0:=hEd
 refine Zl [5,7,9,12,13,14] (fun m E w=>∃ (i:Nat) (sb:Bool) (G2:Ghost),i≤pq.length∧(sb=true↔∀ j (h:j<pq.length),j<i→My s pq[j].1 pq[j].2=true)∧Tm Gp0 G2∧m=pq.length - i∧E=⟨[],[(5,Vt),(7,.slice As s.length cs),(9,.slice Ap30 pq.length cp30),(12,Vi e37),(13,.bool sb),(14,Vi (i:Int))]⟩∧St ⟨w0,G,Bl []⟩ G2 [.blk b8 35 [.slice Aoq oq.length coq,.slice Acq q.length ccq],.blk b6 45 [.slice Ap f.progs.length cp,.slice An f.nodes.length cn,.slice Ae f.edges.length ce,.slice Ar f.routes.length cr,.slice Au nv.length cu],.blk b3 36 [.int .u16 (pk:Int),.int .u16 (pc:Int)],.blk b2 32 [.int .u8 (sz.toNat:Int),.int .u8 (p0.toNat:Int),.int .u8 (p1.toNat:Int),.int .u8 (p2.toNat:Int),.int .u8 (p3.toNat:Int),.int .u8 (n0.toNat:Int),.int .u8 (n1.toNat:Int),.int .u8 (n2.toNat:Int),.int .u8 (n3.toNat:Int),.int .u8 (n4.toNat:Int),.int .u32 (ed:Int),.int .u16 (r0:Int),.int .u16 (r1:Int),.int .u16 (r2:Int),.slice Aw nw.length cw,.slice Aq sf.length cq]] w) rfl (⟨0,true,_,by omega,⟨fun _ _ _ h=>absurd h (Nat.not_lt_zero _),fun _=>rfl⟩,Tm.refl _,rfl,rfl,hs⟩) fun m E w hI=>?_
 obtain ⟨i,sb,G2,hi,hsb,hlg0,rfl,rfl,hs⟩:=hI
 have hS:=hS_0.mono hlg0
 have hEd:=hEd_0.mono hlg0
 have hnw:=hnw0.mono hs.le
 have hsq:=hsq0.mono hs.le
 have hT:=hT0.mono hs.le
 refine Wt 6 [] hs rfl<|Zy hs (Yc rfl (fun h54=>?_) fun h54=>?_)
 ·
  refine Wp 3 [0] hs rfl ?_
  have hil:i<pq.length:=by omega
  obtain ⟨⟨hr1,hr2⟩,hr3,hr4⟩:=ned_rng hk hU ((hpm _).1 (List.getElem_mem hil))
  have hcell:=zG hso ⟨hr1,hr2⟩ ⟨hr3,hr4⟩
  obtain ⟨x1,hx1⟩:∃ z,z=(pq[i]'hil).1:=⟨_,rfl⟩
  obtain ⟨x2,hx2⟩:∃ z,z=(pq[i]'hil).2:=⟨_,rfl⟩
  rw [← hx1] at hr1 hr2
  rw [← hx2] at hr3 hr4
  simp only [← hx1,← hx2] at hcell
  have hss:=hso.n
  obtain ⟨y1,hy1⟩:∃ z,z=(pq[i-1]'oM).1:=⟨_,rfl⟩
  obtain ⟨y2,hy2⟩:∃ z,z=(pq[i-1]'oM).2:=⟨_,rfl⟩
  refine Wu 4 [] hs rfl<|Bb [0,1,2,3,4,5,6,7,8,9,10,11,12,13,14,15,16,17,18,19,20,21,22,23,24,25,26,27,28,29,30,31,32,33,34,35,36,37,38,39,40,41,42,43,44,45,46,47,48,49,50] hs kR ?_
  replace hs:=hs.drew
  refine Xr [0,1] [] hs rfl<|Xt 2 hs rfl (Bp hEd i underlying40 sizeOf70 rfl rfl rfl oM fun p59 c59 hp59 hc59 hR59=>?_)
  replace hR59:c59=[Vi x1,Vi x2]:=by rw [hx1,hx2];exact hR59
  subst hR59
  refine Xt 3 hs rfl (Eo 0 underlying70 sizeOf3 rfl rfl rfl dC<|Xt 4 hs rfl (Yg rfl (hp59 0 (Vi x1) rfl)<|Xt 5 hs rfl (Cv rfl rfl rfl oM<|Xr [6,7,8] [] hs rfl<|Xt 9 hs rfl (Bp hEd i underlying40 sizeOf70 rfl rfl rfl oM fun p66 c66 hp66 hc66 hR66=>?_))))
  replace hR66:c66=[Vi x1,Vi x2]:=by rw [hx1,hx2];exact hR66
  subst hR66
  refine Xt 10 hs rfl (Eo 0 underlying70 sizeOf3 rfl rfl rfl dC<|Xt 11 hs rfl (Yg rfl (hp66 0 (Vi x1) rfl)<|Xr [12,13] [] hs rfl<|Xt 14 hs rfl (Cv rfl rfl rfl oM<|Xr [15,16,17,18] [] hs rfl<|Xt 19 hs rfl (Bp hEd i underlying40 sizeOf70 rfl rfl rfl oM fun p76 c76 hp76 hc76 hR76=>?_))))
  replace hR76:c76=[Vi x1,Vi x2]:=by rw [hx1,hx2];exact hR76
  subst hR76
  refine Xt 20 hs rfl (Eo 1 underlying70 sizeOf3 rfl rfl rfl dC<|Xt 21 hs rfl (Yg rfl (hp76 1 (Vi x2) rfl)<|Xt 22 hs rfl (Cv rfl rfl rfl oM<|Xr [23,24,25,26] [] hs rfl<|Xt 27 hs rfl (Bp hEd i underlying40 sizeOf70 rfl rfl rfl oM fun p84 c84 hp84 hc84 hR84=>?_))))
  replace hR84:c84=[Vi x1,Vi x2]:=by rw [hx1,hx2];exact hR84
  subst hR84
  refine Xt 28 hs rfl (Eo 1 underlying70 sizeOf3 rfl rfl rfl dC<|Xt 29 hs rfl (Yg rfl (hp84 1 (Vi x2) rfl)<|Xr [30,31] [] hs rfl<|Xt 32 hs rfl (Cv rfl rfl rfl oM<|Xr [33,34,35] [] hs rfl<|Xt 36 hs rfl (Jd rfl rfl rfl (fun h93=>?_) (fun h93=>?_)))))
  ·
   dsimp only [Gq] at h93
   refine Xr [37,38,39] [] hs rfl<|Xt 40 hs rfl (Fp (c:=((i-1:Nat):Int)) rfl rfl oM oM<|Xt 41 hs rfl (Bp hEd (i-1) underlying40 sizeOf70 rfl rfl rfl oM fun p98 c98 hp98 hc98 hR98=>?_))
   replace hR98:c98=[Vi y1,Vi y2]:=by rw [hy1,hy2];exact hR98
   subst hR98
   refine Xt 42 hs rfl (dZ underlying70 sizeOf3 rfl dC<|Xr [43,44] [] hs rfl<|Xt 45 hs rfl (Bp hEd i underlying40 sizeOf70 rfl rfl rfl oM fun p102 c102 hp102 hc102 hR102=>?_))
   replace hR102:c102=[Vi x1,Vi x2]:=by rw [hx1,hx2];exact hR102
   subst hR102
   refine Xt 46 hs rfl (dZ underlying70 sizeOf3 rfl dC ?_)
   have hlss:Oz [y1,y2] [x1,x2]=true:=by rw [hy1,hy2,hx1,hx2];exact less_pr (srt_lt hsl hpn oM hil)
   have hle:=hs.le
   refine Xo 47 rfl (Sc (lesi_ok (a:=[y1,y2]) (b:=[x1,x2]) (qJ hp98) (qJ hp102) sM sM) hs rfl fun v6 G' H' _ hR hG104 hs=>?_)
   obtain ⟨rfl,rfl⟩:=hR
   replace hs:=hs.n rfl
   replace hS:=hS.mono hG104
   replace hEd:=hEd.mono hG104
   replace hlg0:=hlg0.mono hG104
   rw [hlss]
   refine Am hs hle hG104 (Df _)<|Xr [48,49,50] [] hs rfl<|Xe (Zk [5,7,9,12,13,14,107] rfl<|Wu 2 [] hs rfl<|Bb [0,1,2,3,4,5,6,7,8,9,10,11,12,13,14,15,16,17] hs kR ?_)
   replace hs:=hs.drew
   cases sb
   ·
    refine Xr [0,1,2,3,4,5,6,7,8,9,10,11,12,13,14,15,16,17] [] hs rfl<|Xa 18 rfl (S_y hs rfl (Yq rfl<|Xe (Zk [5,7,9,12,13,14] rfl<|Wu 2 [] hs rfl<|Zy hs (Ya (s:=((i+1:Nat):Int)) rfl<|Wp 1 [] hs rfl ?_))))
    have hs:=hs.f3.f3.f3.f3
    refine Zx [5,7,9,12,13,14] rfl ⟨i+1,false,_,by omega,⟨fun h=>eB,fun h=>hsb.2 fun j hj hji=>h j hj oM⟩,hlg0,rfl,rfl,hs.weak hs.le (Cj _) (Ea [_,_,_,_] _)⟩
   refine Xr [0,1,2,3,4] [] hs rfl<|Xt 5 hs rfl (Bp hEd i underlying40 sizeOf70 rfl rfl rfl oM fun p113 c113 hp113 hc113 hR113=>?_)
   replace hR113:c113=[Vi x1,Vi x2]:=by rw [hx1,hx2];exact hR113
   subst hR113
   refine Xt 6 hs rfl (Eo 0 underlying70 sizeOf3 rfl rfl rfl dC<|Xt 7 hs rfl (Yg rfl (hp113 0 (Vi x1) rfl)<|Xt 8 hs rfl (Bp hS x1.toNat underlying47 sizeOf64 rfl rfl oM oM fun p116 c116 hp116 hc116 hR116=>?_)))
   obtain ⟨ur,rfl,hBr⟩:=hR116
   obtain ⟨Ar,cr,rfl,_⟩:=id hBr
   refine Xt 9 hs rfl (Yg rfl (hp116 0 _ rfl)<|Xr [10,11] [] hs rfl<|Xt 12 hs rfl (Bp hEd i underlying40 sizeOf70 rfl rfl rfl oM fun p120 c120 hp120 hc120 hR120=>?_))
   replace hR120:c120=[Vi x1,Vi x2]:=by rw [hx1,hx2];exact hR120
   subst hR120
   refine Xt 13 hs rfl (Eo 1 underlying70 sizeOf3 rfl rfl rfl dC<|Xt 14 hs rfl (Yg rfl (hp120 1 (Vi x2) rfl)<|Xt 15 hs rfl (Hu x2.toNat underlying64 sizeOf4 hBr rfl rfl oM hcell fun p123 hp123 =>Xt 16 hs rfl (Yg rfl (hp123)<|Xr [17] [] hs rfl<|Xa 18 rfl (S_y hs rfl (Yq rfl<|Xe (Zk [5,7,9,12,13,14] rfl<|Wu 2 [] hs rfl<|Zy hs (Ya (s:=((i+1:Nat):Int)) rfl<|Wp 1 [] hs rfl ?_))))))))
   have hs:=hs.f3.f3.f3.f3
   refine Zx [5,7,9,12,13,14] rfl ⟨i+1,My s x1 x2,_,by omega,⟨fun hv=>fun j hj hji=>(Nat.lt_or_ge j i).elim (hsb.1 rfl j hj) (fun hh=>by obtain rfl:j=i:=oM;rw [← hx1,← hx2];exact hv),fun h=>by rw [hx1,hx2];exact h i hil oM⟩,hlg0,rfl,rfl,hs.weak hs.le (Cj _) (Ea [_,_,_,_] _)⟩
  dsimp only [Gq] at h93
  refine Xr [37,38,39,40,41,42,43,44,45,46,47,48,49,50] [] hs rfl<|Xe (Zk [5,7,9,12,13,14,107] rfl<|Wu 2 [] hs rfl<|Bb [0,1,2,3,4,5,6,7,8,9,10,11,12,13,14,15,16,17] hs kR ?_)
  replace hs:=hs.drew
  cases sb
  ·
   refine Xr [0,1,2,3,4,5,6,7,8,9,10,11,12,13,14,15,16,17] [] hs rfl<|Xa 18 rfl (S_y hs rfl (Yq rfl<|Xe (Zk [5,7,9,12,13,14] rfl<|Wu 2 [] hs rfl<|Zy hs (Ya (s:=((i+1:Nat):Int)) rfl<|Wp 1 [] hs rfl ?_))))
   have hs:=hs.f3.f3.f3.f3
   refine Zx [5,7,9,12,13,14] rfl ⟨i+1,false,_,by omega,⟨fun h=>eB,fun h=>hsb.2 fun j hj hji=>h j hj oM⟩,hlg0,rfl,rfl,hs.weak hs.le (Cj _) (Ea [_,_,_,_] _)⟩
  refine Xr [0,1,2,3,4] [] hs rfl<|Xt 5 hs rfl (Bp hEd i underlying40 sizeOf70 rfl rfl rfl oM fun p113 c113 hp113 hc113 hR113=>?_)
  replace hR113:c113=[Vi x1,Vi x2]:=by rw [hx1,hx2];exact hR113
  subst hR113
  refine Xt 6 hs rfl (Eo 0 underlying70 sizeOf3 rfl rfl rfl dC<|Xt 7 hs rfl (Yg rfl (hp113 0 (Vi x1) rfl)<|Xt 8 hs rfl (Bp hS x1.toNat underlying47 sizeOf64 rfl rfl oM oM fun p116 c116 hp116 hc116 hR116=>?_)))
  obtain ⟨ur,rfl,hBr⟩:=hR116
  obtain ⟨Ar,cr,rfl,_⟩:=id hBr
  refine Xt 9 hs rfl (Yg rfl (hp116 0 _ rfl)<|Xr [10,11] [] hs rfl<|Xt 12 hs rfl (Bp hEd i underlying40 sizeOf70 rfl rfl rfl oM fun p120 c120 hp120 hc120 hR120=>?_))
  replace hR120:c120=[Vi x1,Vi x2]:=by rw [hx1,hx2];exact hR120
  subst hR120
  refine Xt 13 hs rfl (Eo 1 underlying70 sizeOf3 rfl rfl rfl dC<|Xt 14 hs rfl (Yg rfl (hp120 1 (Vi x2) rfl)<|Xt 15 hs rfl (Hu x2.toNat underlying64 sizeOf4 hBr rfl rfl oM hcell fun p123 hp123 =>Xt 16 hs rfl (Yg rfl (hp123)<|Xr [17] [] hs rfl<|Xa 18 rfl (S_y hs rfl (Yq rfl<|Xe (Zk [5,7,9,12,13,14] rfl<|Wu 2 [] hs rfl<|Zy hs (Ya (s:=((i+1:Nat):Int)) rfl<|Wp 1 [] hs rfl ?_))))))))
  have hs:=hs.f3.f3.f3.f3
  refine Zx [5,7,9,12,13,14] rfl ⟨i+1,My s x1 x2,_,by omega,⟨fun hv=>fun j hj hji=>(Nat.lt_or_ge j i).elim (hsb.1 rfl j hj) (fun hh=>by obtain rfl:j=i:=oM;rw [← hx1,← hx2];exact hv),fun h=>by rw [hx1,hx2];exact h i hil oM⟩,hlg0,rfl,rfl,hs.weak hs.le (Cj _) (Ea [_,_,_,_] _)⟩
 refine Wp 3 [0] hs rfl ?_
 obtain rfl:i=pq.length:=by omega
 have hsa:sb=true↔e37=0:=by rw [hsb,k0,hsall];exact ⟨fun h=>⟨hform,fun p hp=>by obtain ⟨j,hj,rfl⟩:=List.getElem_of_mem ((hpm p).2 hp);exact h j hj hj⟩,fun h j hj _=>h.2 _ ((hpm _).1 (List.getElem_mem hj))⟩
 have hsc:¬ e37=0→e37=310:=fun h=>k310.2 ⟨hform,fun h2=>h (k0.2 ⟨hform,h2⟩)⟩
 refine Wu 2 [] hs rfl ?_
 cases sb
 ·
  refine Wp 1 [] hs rfl<|Zy hs (Cv rfl rfl rfl (by have:¬ e37=0:=(fun h=>by cases hsa.2 h);omega)<|Wp 1 [] hs rfl<|Zy hs (Tw underlying4 rfl rfl (fun _=>?_) (fun h=>absurd rfl h)))
  refine Wp 4 [] hs rfl<|Zg hs rfl (Hl rfl rfl rfl (by have:=hsc (fun h=>by cases hsa.2 h);omega)<|Wp 7 [1,4] hs rfl<|Ah<|Zz results7 rfl ?_)
  exact ⟨_,[],hs.done,rfl,rfl⟩
 refine Wp 1 [] hs rfl<|Zy hs (Hl rfl rfl rfl (by have:=hsa.1 rfl;omega)<|Wp 1 [] hs rfl<|Zy hs (Tw underlying4 rfl rfl (fun _=>?_) (fun h=>absurd rfl h)))
 refine Wp 12 [1,4] hs rfl<|Ah<|Zz results7 rfl ?_
 exact ⟨_,[],hs.done,rfl,rfl⟩
end Go.Proofs.YtngdgnolkilheaaGreatDoor
