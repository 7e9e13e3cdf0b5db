/- The walk of the law FleetPaths: the call returns true, whatever its arguments read, and changes nothing. -/
import Derived.Test.YtkeplgdofphnkaaGreatDoorMI
set_option maxHeartbeats 4000000
set_option maxRecDepth 10000
set_option linter.unusedVariables false
set_option linter.unusedSimpArgs false
set_option linter.unusedSectionVars false
namespace Go.Proofs.YtkeplgdofphnkaaGreatDoor
open Go Go.Ex Go.RowKit Go.Proofs.Tryz
theorem rt_one {G:Ghost} {c:List Value} {r:List Int} (h:RtR G c r):∀ y∈c,y.oneCell'=true:=by
  obtain ⟨v,rfl,hv⟩:=h
  obtain ⟨A,k,rfl,_⟩:=hv
  exact all_one rfl
def addR (f:FltM) (q:List Int):FltM:={ f with routes:=f.routes++[q] }
theorem addR_ok {f:FltM} (h:FOk f) {q:List Int} (hq:q.length≤1000) (hr:f.routes.length≤500):FOk (addR f q) :=
  ⟨⟨h.z.n,h.z.e,h.z.v,fun r hm=>by
    have hm':r∈f.routes++[q]:=hm
    rcases List.mem_append.1 hm' with hm | hm
    · exact h.z.r r hm
    · rw [List.mem_singleton.1 hm];exact hq⟩,h.o,h.s,h.w,h.pl,by show (f.routes++[q]).length≤1000;rw [List.length_append];simp;omega⟩
theorem addR_c {f:FltM} (h:checkE f=0) {q:List Int} (hq:routeB f.edges q=true) (hr:f.routes.length<100):checkE (addR f q)=0:=by
  obtain ⟨h0,h1,hn,he,hrr⟩:=ce_inv h
  unfold checkE at h ⊢
  rw [if_neg (by show ¬ (16<f.progs.length∨24<f.nodes.length∨100<(f.routes++[q]).length);rw [List.length_append,List.length_singleton];omega)]
  rw [if_neg oM] at h
  have e:(addR f q).routes.all (routeB (addR f q).edges)=f.routes.all (routeB f.edges):=by
    show (f.routes++[q]).all (routeB f.edges)=_
    rw [List.all_append];simp [hq]
  rw [e];exact h
theorem rts_snoc {G:Ghost} {v u:Value} {n:Nat} {l:List (List Int)} {rcs:List (List Value)} {q:List Int} (h:Sl G v 1 n (rcs.flatten++[u])) (hn:n=l.length+1) (ha:All2 (RtR G) rcs l) (hk:∀ c∈rcs,c.length=1) (hq:Ints G u q):Rts G v (l++[q]) :=
  LstR.ofSl (cs:=rcs++[[u]]) h sM (by rw [List.length_append];exact hn) (All2.snoc ha ⟨u,rfl,hq⟩) (fun c hc=>by rcases List.mem_append.1 hc with hc | hc;exact hk c hc;rw [List.mem_singleton.1 hc];rfl)
def RRs (G:Ghost) (rcs:List (List Value)) (l:List (List Int)):Prop:=All2 (RtR G) rcs l
theorem RRs.mono {G G':Ghost} (h:G.le G') {rcs:List (List Value)} {l:List (List Int)} (hl:RRs G rcs l):RRs G' rcs l:=All2.mono (fun _ _ h2=>RtR.mono h h2) hl
theorem addR_len {f:FltM} {q:List Int}:0+f.routes.length+1=(addR f q).routes.length:=by show _=(f.routes++[q]).length;rw [List.length_append];simp
theorem addR_flt {G:Ghost} {Ap An Ae Ar Ag:Option Addr} {cp cn ce cr cg:Nat} {f:FltM} {q:List Int} {u:Value} {rcs:List (List Value)} (hf:FltC G Ap An Ae Ar cp cn ce cr f) (h:Sl G (.slice Ag (addR f q).routes.length cg) 1 (addR f q).routes.length (rcs.flatten++[u])) (ha:RRs G rcs f.routes) (hk:∀ c∈rcs,c.length=1) (hq:Ints G u q) :
    FltC G Ap An Ae Ag cp cn ce cg (addR f q) :=
  ⟨hf.p,hf.n,hf.e,rts_snoc h (by show (f.routes++[q]).length=_;rw [List.length_append,List.length_singleton]) ha hk hq⟩
theorem route_pthQ {f:FltM} (h5:f.nodes.length≤5) {l:List Nat} (hl:∀ y∈l,y<f.nodes.length) (h:routeB f.edges (ints l)=true) :
    ∃ a b,a<f.nodes.length∧b<f.nodes.length∧(ints l)[0]?=some (a:Int)∧(ints l)[(ints l).length-1]?=some (b:Int)∧ints l∈pthQ f a b:=by
  obtain ⟨a,b,h1,h2,ha,hb,hm⟩:=route_path rfl h5 hl h
  have hlen:(ints l).length=l.length:=by unfold ints;rw [List.length_map]
  refine ⟨a,b,ha,hb,?_,?_,List.mem_map.2 ⟨l,hm,rfl⟩⟩
  · unfold ints;rw [List.getElem?_map,← List.head?_eq_getElem?,h1];rfl
  · rw [hlen];unfold ints;rw [List.getElem?_map,← List.getLast?_eq_getElem?,h2];rfl
theorem get_of? {α:Type} {l:List α} {i:Nat} {a:α} (h:i<l.length) (e:l[i]?=some a):l[i]=a:=by
  rw [List.getElem?_eq_getElem h] at e;injection e
theorem lpth_ok {G:Ghost} {sz p0 p1 p2 p3 n0 n1 n2 n3 n4:UInt8} {ed r0 r1 r2:Nat} {a b:UInt8} (hT:Tab G) (he:ed<4294967296) (h0:r0<65536) (h1:r1<65536) (h2:r2<65536) :
  FnOk prog 4 [.agg #[.int .u8 (sz.toNat:Int),.int .u8 (p0.toNat:Int),.int .u8 (p1.toNat:Int),.int .u8 (p2.toNat:Int),.int .u8 (p3.toNat:Int),.int .u8 (n0.toNat:Int),.int .u8 (n1.toNat:Int),.int .u8 (n2.toNat:Int),.int .u8 (n3.toNat:Int),.int .u8 (n4.toNat:Int),.int .u32 (ed:Int),.int .u16 (r0:Int),.int .u16 (r1:Int),.int .u16 (r2:Int)],.int .u8 (a.toNat:Int),.int .u8 (b.toNat:Int)] G [] fun r _ H'=>H'=[]∧r=Vt:=by
 obtain ⟨f,hfe⟩:∃ f,f=madeF (rawM sz p0 p1 p2 p3 n0 n1 n2 n3 n4 ed r0 r1 r2):=⟨_,rfl⟩
 have hok:=rawM_ok (sz:=sz) (p0:=p0) (p1:=p1) (p2:=p2) (p3:=p3) (n0:=n0) (n1:=n1) (n2:=n2) (n3:=n3) (n4:=n4) (ed:=ed) (r0:=r0) (r1:=r1) (r2:=r2) h0 h1 h2
 have hfo:FOk f:=by rw [hfe];exact made_fok hok
 have hC:checkE f=0:=by rw [hfe];exact made_ok hok
 have hnn:f.nodes.length=ncnt sz.toNat:=by rw [hfe,made_n hok];rfl
 have hpp:f.progs.length=pcnt sz.toNat:=by rw [hfe,made_p hok];rfl
 have hrr:f.routes.length=rcnt sz.toNat:=by rw [hfe,made_r hok];rfl
 have hn5:=ncnt_le sz.toNat
 have hp5:=pcnt_le sz.toNat
 have hr5:=rcnt_le sz.toNat
 have h12:(rawL f).length≤12:=by rw [hfe];exact made_raw hok
 have hez:=hfo.z.e
 refine FnOk.of_T [(0,_),(1,_),(2,_)] func4 rfl ntmps4 sM rfl fun w0 hs=>?_
 have hT0:=hT
 refine Wt 2 [] hs rfl<|O_s (Sb hs rfl fun b3 _ hs=>Wp 4 [0] hs rfl<|O_s (Sc (sani_ok hT) hs rfl fun v1 G' H' _ hR hG21 hs=>?_))
 obtain ⟨rfl,rfl⟩:=hR
 replace hs:=hs.n rfl
 replace hT:=hT.mono hG21
 refine Wp 5 [0,0] hs rfl<|O_s (Sc (rmad_ok (sz:=sz) (p0:=p0) (p1:=p1) (p2:=p2) (p3:=p3) (n0:=n0) (n1:=n1) (n2:=n2) (n3:=n3) (n4:=n4) (ed:=ed) (r0:=r0) (r1:=r1) (r2:=r2) he h0 h1 h2) hs rfl fun v2 G' H' _ hR hG23 hs=>?_)
 obtain ⟨rfl,hF⟩:=hR
 replace hs:=hs.n rfl
 replace hT:=hT.mono hG23
 rw [← hfe] at hF
 obtain ⟨Ap,An,Ae,Ar,cp,cn,ce,cr,rfl,hf⟩:=hF
 refine O_s (Sa hs zeroValue38 rfl fun b8 _ hs=>O_n (S_stA hs sizeOf38 rfl rfl (vs:=[_,_,_,_]) rfl (rfl) sM (cs':=[_,_,_,_]) rfl fun _ hs =>Wp 1 [0] hs rfl ?_))
 have hla:(a.toNat % f.nodes.length)<f.nodes.length:=Nat.mod_lt _ oM
 have hlb:(b.toNat % f.nodes.length)<f.nodes.length:=Nat.mod_lt _ oM
 refine Wu 1 [] hs rfl<|T_drawS [0,1,2,3,4,5,6,7,8,9,10,11,12,13] hs kR ?_
 replace hs:=hs.drew
 refine Xr [0] [] hs rfl<|Xt 1 hs rfl (Y_conv underlying5 underlying3 (c:=(a.toNat:Int)) rfl Z31<|Xr [2,3,4] [1,0] hs rfl<|Xt 5 hs rfl (Y_rem (c:=((a.toNat % f.nodes.length:Nat):Int)) rfl rfl oM oM (Int.natCast_emod _ _).symm<|Xr [6] [] hs rfl<|Xt 7 hs rfl (Y_conv underlying5 underlying3 (c:=(b.toNat:Int)) rfl Z32<|Xr [8,9,10] [1,0] hs rfl<|Xt 11 hs rfl (Y_rem (c:=((b.toNat % f.nodes.length:Nat):Int)) rfl rfl oM oM (Int.natCast_emod _ _).symm<|Xr [12,13] [] hs rfl<|Xe (Zk [7,8,9,10] rfl<|Wu 5 [0] hs rfl<|O_s (Sc (fpth_ok (a:=(a.toNat % f.nodes.length)) (b:=(b.toNat % f.nodes.length)) hf hfo.z hfo.o hT hC rfl oM hla hlb (paths_len oM hla)) hs rfl fun v3 G' H' _ hR hG40 hs=>?_))))))
 obtain ⟨rfl,vL,rfl,hL⟩:=hR
 replace hs:=hs.n rfl
 replace hT:=hT.mono hG40
 replace hf:=hf.mono hG40
 have hQ:Rts _ vL (pthQ f (a.toNat % f.nodes.length) (b.toNat % f.nodes.length)):=lnR hL
 obtain ⟨Q,hQe⟩:∃ Q,Q=pthQ f (a.toNat % f.nodes.length) (b.toNat % f.nodes.length):=⟨_,rfl⟩
 rw [← hQe] at hQ
 obtain ⟨AQ,cQ,rfl⟩:=LstR.slice hQ
 have hQl:Q.length≤100:=by rw [hQe];unfold pthQ;rw [List.length_map];exact paths_len oM hla
 refine Wp 19 [0,0,0] hs rfl ?_
 have hs:=hs.f1.f1
 refine Zl [7,8,9,10,11,13] (fun m E w=>∃ (i:Nat) (G2:Ghost),i≤Q.length∧Tab G2∧FltC G2 Ap An Ae Ar cp cn ce cr f∧Rts G2 (.slice AQ Q.length cQ) Q∧m=Q.length-i∧E=⟨[],[(7,Vt),(8,Vp b8),(9,Vi ((a.toNat % f.nodes.length):Int)),(10,Vi ((b.toNat % f.nodes.length):Int)),(11,.slice AQ Q.length cQ),(13,Vi (i:Int))]⟩∧St ⟨w0,G,feet []⟩ G2 [.blk b8 38 [.slice Ap f.progs.length cp,.slice An f.nodes.length cn,.slice Ae f.edges.length ce,.slice Ar f.routes.length cr],.blk b3 28 [.int .u8 (sz.toNat:Int),.int .u8 (p0.toNat:Int),.int .u8 (p1.toNat:Int),.int .u8 (p2.toNat:Int),.int .u8 (p3.toNat:Int),.int .u8 (n0.toNat:Int),.int .u8 (n1.toNat:Int),.int .u8 (n2.toNat:Int),.int .u8 (n3.toNat:Int),.int .u8 (n4.toNat:Int),.int .u32 (ed:Int),.int .u16 (r0:Int),.int .u16 (r1:Int),.int .u16 (r2:Int)]] w) rfl (⟨0,_,by omega,hT,hf,hQ,rfl,rfl,hs.weak hs.le (Ghost.le.refl _) (List.sublist_append_left [_,_] _)⟩) fun m E w hI=>?_
 obtain ⟨i,G2,hi,hT,hf,hQ,rfl,rfl,hs⟩:=hI
 have hT:=hT0.mono hs.le
 refine Wt 6 [] hs rfl<|Zy hs (Yc rfl (fun h48=>?_) fun h48=>?_)
 ·
  refine Wp 3 [0] hs rfl ?_
  obtain ⟨q,hq⟩:∃ z,z=Q[i]'oM:=⟨_,rfl⟩
  have hqa:=pthQ_at (f:=f) oM hla (hQe▸hq▸List.getElem_mem (show i<Q.length by omega):q∈pthQ f (a.toNat % f.nodes.length) (b.toNat % f.nodes.length))
  have hq0:=get_of? oM hqa.2.2.2.1
  have hq1:=get_of? oM hqa.2.2.2.2.1
  obtain ⟨rcs,hrl,hra,hrk⟩:=id hf.r
  replace hra:RRs _ _ _:=hra
  refine Wu 5 [0] hs rfl<|O_s (Sa hs zeroValue38 rfl fun b14 _ hs=>O_n (S_stA hs sizeOf38 rfl rfl (vs:=[_,_,_,_]) rfl (rfl) sM (cs':=[_,_,_,_]) rfl fun _ hs =>Wp 3 [0] hs rfl<|O_s (S_lit hs underlying36 sizeOf45 zeroValue45 rfl rfl dC dC rfl (cs:=[]) rfl rfl fun v4 _ hs shl=>?_)))
  obtain ⟨bl52,rfl⟩:=shl
  refine Wp 2 [3,2] hs rfl<|O_s (S_append hs underlying36 TI45 rfl dC rfl rfl (hrl) ((flat_one (fun _ _ h=>rt_one h) hra)) oM oM fun v5 _ hs =>Wp 1 [3] hs rfl<|O_n (Sd hs.f1 rfl (hs.f1.rowOne 1 rfl) fun _ hs=>Wp 2 [0] hs rfl<|T_drawS [0,1,2,3,4,5,6] hs kR ?_))
  replace hs:=hs.drew
  refine Xr [0,1,2,3] [3,0] hs rfl<|Xt 4 hs rfl (Y_idxS hQ (i) underlying36 sizeOf45 rfl rfl rfl oM fun p61 c61 hp61 hc61 hR61=>?_)
  rw [← hq] at hR61
  obtain ⟨u61,rfl,hv61⟩:=hR61
  obtain ⟨A61,c61,rfl,_⟩:=id hv61
  refine Xt 5 hs rfl (Yg rfl (hp61 0 (.slice A61 q.length c61) rfl) ?_)
  have hle:=hs.le
  refine Xo 6 rfl (S_lit hs underlying36 sizeOf45 zeroValue45 rfl rfl dC dC rfl (cs:=[_]) rfl rfl fun v6 _ hs _=>?_)
  obtain ⟨_,hG63,hl63,hs⟩:=hs.fixRow noM
  replace hT:=hT.mono hG63
  replace hf:=hf.mono hG63
  replace hQ:=hQ.mono hG63
  replace hra:=hra.mono hG63
  replace hv61:=hv61.mono hG63
  refine A_moreS hs hle hG63 (List.Sublist.refl _)<|Xa 7 rfl (S_append hs.f1 underlying36 TI45 rfl dC rfl rfl (hl63) (one1 rfl) oM oM fun v7 _ hs =>Xa 8 rfl (S_y hs rfl (Yf 3 rfl<|Xn 9 rfl (Sd hs.f1 rfl (hs.f1.rowOne 1 rfl) fun _ hs=>Xe (Zk [7,8,9,10,11,13,14] rfl ?_)))))
  rw [show 0+f.routes.length+1=(addR f q).routes.length from addR_len] at hs
  have hs:=hs.f1
  obtain ⟨_,hG_hfg,hfg,hs⟩:=hs.fixRow noM
  replace hT:=hT.mono hG_hfg
  replace hf:=hf.mono hG_hfg
  replace hQ:=hQ.mono hG_hfg
  replace hra:=hra.mono hG_hfg
  replace hv61:=hv61.mono hG_hfg
  obtain ⟨Ag,cg,hge,_⟩:=id hfg
  subst hge
  have hfg2:=addR_flt hf (by simpa using hfg) hra hrk hv61
  refine Wu 5 [] hs rfl<|Zy hs (Y_idxS hQ (i) underlying36 sizeOf45 rfl rfl rfl oM fun p68 c68 hp68 hc68 hR68=>?_)
  rw [← hq] at hR68
  obtain ⟨u68,rfl,hv68⟩:=hR68
  obtain ⟨A68,c68,rfl,_⟩:=id hv68
  refine Zy hs (Yg rfl (hp68 0 (.slice A68 q.length c68) rfl)<|Wp 1 [] hs rfl<|Zy hs (Y_cmpF rfl rfl rfl oM<|Wp 2 [0] hs rfl<|O_yes 72 rfl rfl (Sc (fval_ok (f:=addR f q) hfg2 (addR_ok hfo oM oM).z (addR_ok hfo oM oM).o hT) hs rfl fun v8 G' H' _ hR hG74 hs=>?_)))
  obtain ⟨rfl,rfl⟩:=hR
  replace hs:=hs.n rfl
  replace hT:=hT.mono hG74
  replace hf:=hf.mono hG74
  replace hQ:=hQ.mono hG74
  rw [addR_c hC hqa.1 oM]
  refine Wp 6 [0] hs rfl<|T_drawS [0,1,2,3,4,5,6,7,8,9,10,11,12,13,14,15,16,17,18,19,20,21,22,23] hs kR ?_
  replace hs:=hs.drew
  refine Xr [0,1] [] hs rfl<|Xt 2 hs rfl (Y_idxS hQ (i) underlying36 sizeOf45 rfl rfl rfl oM fun p79 c79 hp79 hc79 hR79=>?_)
  rw [← hq] at hR79
  obtain ⟨u79,rfl,hv79⟩:=hR79
  obtain ⟨A79,c79,rfl,_⟩:=id hv79
  refine Xt 3 hs rfl (Yg rfl (hp79 0 (.slice A79 q.length c79) rfl)<|Xt 4 hs rfl (Y_idxI hv79 0 underlying45 sizeOf3 rfl rfl rfl oM fun p81 hp81 =>Xt 5 hs rfl (Yg rfl (hp81)<|Xr [6] [] hs rfl<|Xt 7 hs rfl (Y_cmpF rfl rfl rfl oM<|Xr [8,9,10] [] hs rfl<|Xt 11 hs rfl (Y_idxS hQ (i) underlying36 sizeOf45 rfl rfl rfl oM fun p88 c88 hp88 hc88 hR88=>?_)))))
  rw [← hq] at hR88
  obtain ⟨u88,rfl,hv88⟩:=hR88
  obtain ⟨A88,c88,rfl,_⟩:=id hv88
  refine Xt 12 hs rfl (Yg rfl (hp88 0 (.slice A88 q.length c88) rfl)<|Xr [13,14] [] hs rfl<|Xt 15 hs rfl (Y_idxS hQ (i) underlying36 sizeOf45 rfl rfl rfl oM fun p92 c92 hp92 hc92 hR92=>?_))
  rw [← hq] at hR92
  obtain ⟨u92,rfl,hv92⟩:=hR92
  obtain ⟨A92,c92,rfl,_⟩:=id hv92
  refine Xt 16 hs rfl (Yg rfl (hp92 0 (.slice A92 q.length c92) rfl)<|Xr [17] [] hs rfl<|Xt 18 hs rfl (Y_sub (c:=((q.length-1:Nat):Int)) rfl rfl oM oM<|Xt 19 hs rfl (Y_idxI hv88 (q.length-1) underlying45 sizeOf3 rfl rfl rfl oM fun p96 hp96 =>Xt 20 hs rfl (Yg rfl (hp96)<|Xr [21] [] hs rfl<|Xt 22 hs rfl (Y_cmpF rfl rfl rfl oM<|Xr [23] [] hs rfl<|Xe (Zk [7,8,9,10,11,13,100] rfl<|Wu 4 [] hs rfl<|Zy hs (Ya (s:=((i+1:Nat):Int)) rfl<|Wp 1 [] hs rfl ?_)))))))
  have hs:=hs.f2.f2
  refine Zx [7,8,9,10,11,13] rfl ⟨i+1,_,by omega,hT,hf,hQ,rfl,rfl,hs.weak hs.le (Ghost.le.refl _) (List.sublist_append_left [_,_] _)⟩
 refine Wp 3 [0] hs rfl<|Wu 5 [0] hs rfl ?_
 have hs:=hs.f1.f1
 refine Zl [7,8,15] (fun m E w=>∃ (i:Nat) (G2:Ghost),i≤f.routes.length∧Tab G2∧FltC G2 Ap An Ae Ar cp cn ce cr f∧m=f.routes.length-i∧E=⟨[],[(7,Vt),(8,Vp b8),(15,Vi (i:Int))]⟩∧St ⟨w0,G,feet []⟩ G2 [.blk b8 38 [.slice Ap f.progs.length cp,.slice An f.nodes.length cn,.slice Ae f.edges.length ce,.slice Ar f.routes.length cr],.blk b3 28 [.int .u8 (sz.toNat:Int),.int .u8 (p0.toNat:Int),.int .u8 (p1.toNat:Int),.int .u8 (p2.toNat:Int),.int .u8 (p3.toNat:Int),.int .u8 (n0.toNat:Int),.int .u8 (n1.toNat:Int),.int .u8 (n2.toNat:Int),.int .u8 (n3.toNat:Int),.int .u8 (n4.toNat:Int),.int .u32 (ed:Int),.int .u16 (r0:Int),.int .u16 (r1:Int),.int .u16 (r2:Int)]] w) rfl (⟨0,_,by omega,hT,hf,rfl,rfl,hs.weak hs.le (Ghost.le.refl _) (List.sublist_append_left [_,_] _)⟩) fun m E w hI=>?_
 obtain ⟨i,G2,hi,hT,hf,rfl,rfl,hs⟩:=hI
 have hT:=hT0.mono hs.le
 refine Wt 7 [3,0] hs rfl<|Zy hs (Yc rfl (fun h105=>?_) fun h105=>?_)
 ·
  refine Wp 3 [0] hs rfl ?_
  obtain ⟨r,hr⟩:∃ z,z=f.routes[i]'oM:=⟨_,rfl⟩
  obtain ⟨lr,hre,hrb,hrn,hr2,hr5'⟩:=made_route (x:=(rawM sz p0 p1 p2 p3 n0 n1 n2 n3 n4 ed r0 r1 r2)) (r:=r) (by rw [← hfe,hr];exact List.getElem_mem _)
  have hnr:ncnt ((rawM sz p0 p1 p2 p3 n0 n1 n2 n3 n4 ed r0 r1 r2)).size=f.nodes.length:=by rw [hnn];rfl
  rw [hnr] at hrn hr5'
  rw [← hfe] at hrb
  have hrlen:r.length=lr.length:=by rw [hre];unfold ints;rw [List.length_map]
  rw [hre] at hrb
  obtain ⟨a1,b1,ha1,hb1,hr0,hrl2,hrm⟩:=route_pthQ (f:=f) oM hrn hrb
  rw [← hre] at hr0 hrl2 hrm
  refine Wu 7 [3,0] hs rfl<|Zy hs (Y_idxS hf.r i underlying36 sizeOf45 rfl rfl rfl oM fun p111 c111 hp111 hc111 hR111=>?_)
  rw [← hr] at hR111
  obtain ⟨u111,rfl,hv111⟩:=hR111
  obtain ⟨A111,c111,rfl,_⟩:=id hv111
  refine Zy hs (Yg rfl (hp111 0 (.slice A111 r.length c111) rfl)<|Wp 3 [0] hs rfl<|T_drawS [0,1,2,3,4,5,6,7,8,9,10,11,12,13,14,15] hs kR ?_)
  replace hs:=hs.drew
  refine Xr [0,1] [0] hs rfl<|Xt 2 hs rfl (Y_idxI hv111 0 underlying45 sizeOf3 rfl rfl rfl oM fun p116 hp116=>?_)
  rw [get_of? oM hr0] at hp116
  refine Xt 3 hs rfl (Yg rfl (hp116)<|Xr [4,5,6] [] hs rfl<|Xt 7 hs rfl (Y_sub (c:=((r.length-1:Nat):Int)) rfl rfl oM oM<|Xt 8 hs rfl (Y_idxI hv111 (r.length-1) underlying45 sizeOf3 rfl rfl rfl oM fun p122 hp122=>?_)))
  rw [get_of? oM hrl2] at hp122
  refine Xt 9 hs rfl (Yg rfl (hp122) ?_)
  have hle:=hs.le
  refine Xo 10 rfl (Sc (fpth_ok (a:=a1) (b:=b1) hf hfo.z hfo.o hT hC rfl oM ha1 hb1 (paths_len oM ha1)) hs rfl fun v9 G' H' _ hR hG124 hs=>?_)
  obtain ⟨rfl,vL2,rfl,hL2⟩:=hR
  replace hs:=hs.n rfl
  replace hT:=hT.mono hG124
  replace hf:=hf.mono hG124
  replace hv111:=hv111.mono hG124
  have hQ2:Rts _ vL2 (pthQ f a1 b1):=lnR hL2
  obtain ⟨Q2,hQe2⟩:∃ Q,Q=pthQ f a1 b1:=⟨_,rfl⟩
  rw [← hQe2] at hQ2
  obtain ⟨AQ2,cQ2,rfl⟩:=LstR.slice hQ2
  have hQl2:Q2.length≤100:=by rw [hQe2];unfold pthQ;rw [List.length_map];exact paths_len oM ha1
  refine A_moreS hs hle hG124 (List.Sublist.refl _)<|Xr [11,12,13,14,15] [] hs rfl<|Xe (Zk [7,8,15,16,17,18] rfl<|Wu 9 [0,0] hs rfl ?_)
  have hs:=hs.f1.f1
  refine Zl [7,8,15,16,17,18,19,20] (fun m E w=>∃ (k:Nat) (fb:Bool) (G2:Ghost),k≤Q2.length∧fb=decide (r∈Q2.take k)∧Tab G2∧FltC G2 Ap An Ae Ar cp cn ce cr f∧Ints G2 (.slice A111 r.length c111) r∧Rts G2 (.slice AQ2 Q2.length cQ2) Q2∧m=Q2.length-k∧E=⟨[],[(7,Vt),(8,Vp b8),(15,Vi (i:Int)),(16,.slice A111 r.length c111),(17,.slice AQ2 Q2.length cQ2),(18,Vi 0),(19,.bool fb),(20,Vi (k:Int))]⟩∧St ⟨w0,G,feet []⟩ G2 [.blk b8 38 [.slice Ap f.progs.length cp,.slice An f.nodes.length cn,.slice Ae f.edges.length ce,.slice Ar f.routes.length cr],.blk b3 28 [.int .u8 (sz.toNat:Int),.int .u8 (p0.toNat:Int),.int .u8 (p1.toNat:Int),.int .u8 (p2.toNat:Int),.int .u8 (p3.toNat:Int),.int .u8 (n0.toNat:Int),.int .u8 (n1.toNat:Int),.int .u8 (n2.toNat:Int),.int .u8 (n3.toNat:Int),.int .u8 (n4.toNat:Int),.int .u32 (ed:Int),.int .u16 (r0:Int),.int .u16 (r1:Int),.int .u16 (r2:Int)]] w) rfl (⟨0,false,_,by omega,by simp,hT,hf,hv111,hQ2,rfl,rfl,hs.weak hs.le (Ghost.le.refl _) (List.sublist_append_left [_,_] _)⟩) fun m E w hI=>?_
  obtain ⟨k,fb,G2,hk,hfb,hT,hf,hv111,hQ2,rfl,rfl,hs⟩:=hI
  have hT:=hT0.mono hs.le
  refine Wt 6 [] hs rfl<|Zy hs (Yc rfl (fun h130=>?_) fun h130=>?_)
  ·
   refine Wp 3 [0] hs rfl ?_
   obtain ⟨q2,hq2⟩:∃ z,z=Q2[k]'oM:=⟨_,rfl⟩
   have hqb:=pthQ_at (f:=f) oM ha1 (hQe2▸hq2▸List.getElem_mem (show k<Q2.length by omega):q2∈pthQ f a1 b1)
   refine Wu 3 [] hs rfl ?_
   cases fb
   ·
    refine Wp 4 [] hs rfl<|Zg hs rfl (Y_idxS hQ2 (k) underlying36 sizeOf45 rfl rfl rfl oM fun p137 c137 hp137 hc137 hR137=>?_)
    rw [← hq2] at hR137
    obtain ⟨u137,rfl,hv137⟩:=hR137
    obtain ⟨A137,c137,rfl,_⟩:=id hv137
    refine Zg hs rfl (Yg rfl (hp137 0 (.slice A137 q2.length c137) rfl)<|Wp 1 [] hs rfl<|O_yes 134 rfl rfl (Sc (rsin_ok hv137 hv111 oM) hs rfl fun v10 G' H' _ hR hG140 hs=>?_))
    obtain ⟨rfl,rfl⟩:=hR
    replace hs:=hs.n rfl
    replace hT:=hT.mono hG140
    replace hf:=hf.mono hG140
    replace hv111:=hv111.mono hG140
    replace hQ2:=hQ2.mono hG140
    refine Wp 5 [0] hs rfl<|Zy hs (Ya (s:=((k+1:Nat):Int)) rfl<|Wp 1 [] hs rfl ?_)
    have hs:=hs.f1.f1
    refine Zx [7,8,15,16,17,18,19,20] rfl ⟨k+1,_,_,by omega,decide_eq_decide.2 ⟨fun h=>by rw [take_succ' oM,← hq2,h];simp,fun h=>by rw [take_succ' oM,← hq2] at h;rcases List.mem_append.1 h with h | h;exact absurd h (of_decide_eq_false hfb.symm);exact (List.mem_singleton.1 h).symm⟩,hT,hf,hv111,hQ2,rfl,rfl,hs.weak hs.le (Ghost.le.refl _) (List.sublist_append_left [_,_] _)⟩
   refine Wp 13 [0] hs rfl<|Zy hs (Ya (s:=((k+1:Nat):Int)) rfl<|Wp 1 [] hs rfl ?_)
   have hs:=hs.f1.f1
   refine Zx [7,8,15,16,17,18,19,20] rfl ⟨k+1,_,_,by omega,(decide_eq_true (by rw [take_succ' oM];exact List.mem_append_left _ (of_decide_eq_true hfb.symm))).symm,hT,hf,hv111,hQ2,rfl,rfl,hs.weak hs.le (Ghost.le.refl _) (List.sublist_append_left [_,_] _)⟩
  refine Wp 3 [0] hs rfl ?_
  obtain rfl:fb=true:=by rw [hfb,List.take_of_length_le oM];exact decide_eq_true (hQe2▸hrm)
  refine Wu 13 [0] hs rfl<|Zy hs (Ya (s:=((i+1:Nat):Int)) rfl<|Wp 1 [] hs rfl ?_)
  have hs:=hs.f1.f1
  refine Zx [7,8,15] rfl ⟨i+1,_,by omega,hT,hf,rfl,rfl,hs.weak hs.le (Ghost.le.refl _) (List.sublist_append_left [_,_] _)⟩
 refine Wp 3 [0] hs rfl<|Wu 5 [0] hs rfl<|T_ret<|Zz results4 rfl ?_
 exact ⟨_,[],hs.done,rfl,rfl⟩
end Go.Proofs.YtkeplgdofphnkaaGreatDoor
