/- Part 9 of the walk through the functions that the laws of package fleet call: each function's contract, without conditions but those that its statement names. -/
import Derived.Test.YtngdgnolkilheaaGreatDoorMH
set_option maxHeartbeats 4000000
set_option maxRecDepth 10000
set_option linter.unusedVariables false
set_option linter.unusedSimpArgs false
set_option linter.unusedSectionVars false
namespace Go.Proofs.YtngdgnolkilheaaGreatDoor
open Go Go.Ex Go.RowKit Go.Proofs.Tryz
open Pl
open Pl
def Fl (f:Bw):List Int:=f.nodes.map fun x=>(x.vers[x.runs.toNat]?).getD 0
def Qf (f:Bw) (nv:List Int):List Int:=(List.range f.nodes.length).map fun i=>match f.nodes[i]? with | some x=>(x.vers[(nv.getD i 0).toNat]?).getD 0 | none=>0
def kY (f:Bw) (e:Int):Nat×Nat:=match f.edges[e.toNat]? with | some p=>(p.1.toNat,p.2.toNat) | none=>(0,0)
def Pw (s:List (List Bool)) (a b:Int):Bool:=(s.getD a.toNat []).getD b.toNat false
def gI (f:Bw) (nv:List Int) (i:Nat):Bool:=decide (¬ nv.getD i 0=(f.nodes.map (·.runs)).getD i 0)
def Ee (f:Bw) (nv:List Int):List Nat:=(List.range f.nodes.length).filter (gI f nv)
structure eB (f:Bw) (nv:List Int):Prop where
  g:FOk f
  c:Dh f=0
  n:nv.length=f.nodes.length
  v:∀ i,(h:i<f.nodes.length)→0≤nv.getD i 0∧nv.getD i 0<f.nodes[i].vers.length
  u:(Ee f nv).length≤6
  r:(fI f).length≤12
theorem Uu {f:Bw} {nv:List Int} {k:Nat}:(List.range (k+1)).filter (gI f nv)=(List.range k).filter (gI f nv)++if gI f nv k=true then [k] else []:=by
  rw [List.range_succ,List.filter_append]
  congr 1
  cases h:gI f nv k<;>simp [h]
theorem zR {f:Bw} {nv:List Int} {k:Nat} (h:k<f.nodes.length) (hn:nv.length=f.nodes.length):gI f nv k=decide (¬ nv[k]'oM=f.nodes[k].runs):=by
  unfold gI
  rw [List.getD_eq_getElem?_getD,List.getElem?_eq_getElem oM,List.getD_eq_getElem?_getD,List.getElem?_map,List.getElem?_eq_getElem h];rfl
theorem Gb {f:Bw}:(Fl f).length=f.nodes.length:=List.length_map _
theorem kF {f:Bw} {k:Nat} (h:k<f.nodes.length) (h2:0≤f.nodes[k].runs∧f.nodes[k].runs<f.nodes[k].vers.length):(Fl f)[k]'(by rw [Gb];exact h)=f.nodes[k].vers[f.nodes[k].runs.toNat]'oM:=by
  unfold Fl
  rw [List.getElem_map,List.getElem?_eq_getElem oM];rfl
theorem zS {f:Bw} {nv:List Int} {k:Nat} (h:k<f.nodes.length) (h2:0≤nv.getD k 0∧nv.getD k 0<f.nodes[k].vers.length):(Qf f nv).getD k 0=f.nodes[k].vers[(nv.getD k 0).toNat]'oM:=by
  unfold Qf
  rw [List.getD_eq_getElem?_getD,List.getElem?_map,List.getElem?_range h,Option.map_some,Option.getD_some,List.getElem?_eq_getElem h]
  show (f.nodes[k].vers[(nv.getD k 0).toNat]?).getD 0=_
  rw [List.getElem?_eq_getElem oM];rfl
theorem Ms {l:List Int} {k:Nat} (h:k<l.length):l.getD k 0=l[k]:=by rw [List.getD_eq_getElem?_getD,List.getElem?_eq_getElem h];rfl
def RxI (G:Ghost) (v:List Value) (x:List Int):Prop:=∃ u,v=[u]∧Bt G u x
def RxN (G:Ghost) (v:List Value) (x:List Nat):Prop:=∃ u,v=[u]∧Cr G u x
def Rd (f:Bw) (nv:List Int) (o:List Nat):List (List Int):=Jl (Qf f nv) (Fl f) o
def Ho (f:Bw) (nv:List Int) (s:List (List Bool)) (u:List Int) (o:List Nat):List Int:=clF (Qf f nv) (kY f) (Pw s) u (Fl f) o
theorem Ww {G:Ghost} {v:Value} {n:Nat} {xs:List Value} {l:List Int} (h:Sl G v 1 n xs) (hn:n=l.length) (hx:xs=l.map (.int .i64)):Bt G v l:=by
  subst hn;subst hx;exact h
theorem gC {G:Ghost} {Ap An Ae Ar:Option Addr} {cp cn ce cr:Nat} {f:Bw} {Au:Option Addr} {cu:Nat} {nv:List Int} (hf:Hb G Ap An Ae Ar cp cn ce cr f) (hu:Bt G (.slice Au nv.length cu) nv) (hz:tY f) (hn:nv.length=f.nodes.length) :
  Ai prog 30 [.agg #[.slice Ap f.progs.length cp,.slice An f.nodes.length cn,.slice Ae f.edges.length ce,.slice Ar f.routes.length cr,.slice Au nv.length cu]] G [] fun r G' H'=>H'=[]∧Cr G' r (Ee f nv):=by
 have hnz:=hz.n
 refine Ai.of_T [(0,_)] func30 rfl ntmps30 sM rfl fun w0 hs=>?_
 have hf0:=hf
 have hu0:=hu
 refine Wt 2 [] hs rfl<|O_s (Sb hs rfl fun b1 _ hs=>Wp 15 [0,0,0,1,0,0] hs rfl ?_)
 have hs:=hs.nilRow 3 1
 have hs:=hs.f1.f1
 refine Zl [1,3,8,9,10] (fun m E w=>∃ (k:Nat) (v3:Value) (G2:Ghost),k≤f.nodes.length∧m=f.nodes.length-k∧E=⟨[],[(1,Vp b1),(3,v3),(8,.slice An f.nodes.length cn),(9,Vi ((f.nodes.length:Nat):Int)),(10,Vi (k:Int))]⟩∧St ⟨w0,G,Bl []⟩ G2 [.row 3 1 v3 ((List.range k).filter (gI f nv)).length (((List.range k).filter (gI f nv)).map Cm),.blk b1 45 [.slice Ap f.progs.length cp,.slice An f.nodes.length cn,.slice Ae f.edges.length ce,.slice Ar f.routes.length cr,.slice Au nv.length cu]] w) rfl (⟨0,_,_,by omega,rfl,rfl,hs⟩) fun m E w hI=>?_
 obtain ⟨k,v3,G2,hk,rfl,rfl,hs⟩:=hI
 have hf:=hf0.mono hs.le
 have hu:=hu0.mono hs.le
 refine Wt 2 [] hs rfl<|Zy hs (Yc rfl (fun h11=>?_) fun h11=>?_)
 ·
  refine Wp 9 [0] hs rfl<|Zy hs (Bv hf.n (k) underlying39 sizeOf76 rfl rfl rfl oM fun p13 c13 hp13 hc13 hR13=>?_)
  obtain ⟨u13,rfl,hv13⟩:=hR13
  obtain ⟨Av13,cv13,rfl,_⟩:=id hv13
  refine Zy hs (Cu (vs:=[.slice Av13 f.nodes[k].vers.length cv13,Vi f.nodes[k].runs,Vi f.nodes[k].claims,.bool f.nodes[k].up]) isAgg76 sizeOf76 rfl hp13 rfl<|O_s (Sa hs zeroValue76 rfl fun b5 _ hs=>Wp 1 [] hs rfl<|O_n (Es hs sizeOf76 rfl rfl (vs:=[_,_,_,_]) rfl (rfl) sM (cs':=[_,_,_,_]) rfl fun _ hs =>Wp 1 [0] hs rfl ?_)))
  have hkl:((List.range k).filter (gI f nv)).length≤k:=by have:=List.length_filter_le (gI f nv) (List.range k);simpa using this
  refine Wu 1 [] hs rfl<|Bc [0,1,2,3,4,5,6,7] hs kR ?_
  replace hs:=hs.drew
  refine Xr [0,1,2] [4,2] hs rfl<|Xt 3 hs rfl (Dl hu k underlying33 sizeOf3 rfl rfl rfl oM fun p18 hp18 =>Xt 4 hs rfl (Yg rfl (hp18)<|Xr [5,6] [1,0] hs rfl<|Xt 7 hs rfl (Nr rfl rfl rfl (fun h22=>?_) (fun h22=>?_))))
  ·
   dsimp only [Il] at h22
   refine Xe (Zk [1,3,4,8,9,10,22] rfl<|Wu 4 [] hs rfl<|O_s (Ca hs underlying33 sizeOf3 zeroValue3 rfl rfl dC dC rfl (cs:=[_]) rfl rfl fun v1 _ hs _=>?_))
   obtain ⟨_,hG25,hl25,hs⟩:=hs.fixRow noM
   refine O_s (Bf hs.f1 underlying33 Lb rfl dC rfl rfl (hl25) (Fj rfl) oM oM fun v2 _ hs =>Wp 3 [0] hs rfl<|Zy hs (Ya (s:=((k+1:Nat):Int)) rfl<|Wp 1 [] hs rfl ?_))
   have hs:=hs.f2.f1
   have hq:=zR (nv:=nv) (show k<f.nodes.length by omega) hn
   refine Zx [1,3,8,9,10] rfl ⟨k+1,_,_,by omega,rfl,rfl,Bz (hs.weak hs.le (gLr _) (lSa [_,_] _)) (by rw [Uu,hq];simp [h22])⟩
  dsimp only [Il] at h22
  refine Xe (Zk [1,3,4,8,9,10,22] rfl<|Wu 3 [] hs rfl<|Zy hs (Ya (s:=((k+1:Nat):Int)) rfl<|Wp 1 [] hs rfl ?_))
  have hs:=hs.f2.f2
  have hq:=zR (nv:=nv) (show k<f.nodes.length by omega) hn
  refine Zx [1,3,8,9,10] rfl ⟨k+1,_,_,by omega,rfl,rfl,Bz (hs.weak hs.le (gLr _) (lSa [_,_] _)) (by rw [Uu,hq];simp [h22])⟩
 refine Wp 4 [0] hs rfl<|Wu 5 [0] hs rfl<|Ah ?_
 obtain rfl:k=f.nodes.length:=by omega
 obtain ⟨_,hG_hfr,hfr,hs⟩:=hs.fixRow noM
 refine Zz results30 rfl ?_
 exact ⟨_,[],hs.done,rfl,by simpa [Cr,Ee] using hfr⟩
theorem qE {G:Ghost} {Ao:Option Addr} {no co:Nat} {Ap An Ae Ar:Option Addr} {cp cn ce cr:Nat} {f:Bw} {Au:Option Addr} {cu:Nat} {nv:List Int} :
  Ai prog 41 [.agg #[.slice Ap f.progs.length cp,.slice An f.nodes.length cn,.slice Ae f.edges.length ce,.slice Ar f.routes.length cr,.slice Au nv.length cu],.slice Ao no co] G [] fun r G' H'=>H'=[]∧∃ bu bo,r=.func (.func 64) #[] #[Vp bu,Vp bo]∧Br G' bu [.slice Ap f.progs.length cp,.slice An f.nodes.length cn,.slice Ae f.edges.length ce,.slice Ar f.routes.length cr,.slice Au nv.length cu]∧Br G' bo [.slice Ao no co]:=by
 refine Ai.of_T [(0,_),(1,_)] func41 rfl ntmps41 sM rfl fun w0 hs =>Wt 2 [] hs rfl<|O_s (Sb hs rfl fun b2 _ hs=>O_s (Sb hs rfl fun b3 _ hs=>Wp 4 [0] hs rfl<|Zy hs (Dn (vs:=[_,_]) rfl<|Wp 2 [0] hs rfl<|Ah ?_)))
 have hs:=hs.f1
 obtain ⟨_,hGbhQu,hQu,hs⟩:=hs.fixBlk (fun k _=>Ht k)
 replace hQu:Br _ b2 _:=hQu
 obtain ⟨_,hGbhQo,hQo,hs⟩:=hs.fixBlk (fun k _=>Ht k)
 replace hQu:=hQu.mono hGbhQo
 replace hQo:Br _ b3 _:=hQo
 refine Zz results41 rfl ?_
 exact ⟨_,[],hs.done,rfl,_,_,rfl,hQu,hQo⟩
theorem sta1_ok {G:Ghost} {bu bo:Nat} {Ao:Option Addr} {co:Nat} {o:List Nat} {Ap An Ae Ar:Option Addr} {cp cn ce cr:Nat} {f:Bw} {Au:Option Addr} {cu:Nat} {nv:List Int} (hf:Hb G Ap An Ae Ar cp cn ce cr f) (hu:Bt G (.slice Au nv.length cu) nv) (hz:tY f) (hC:Dh f=0) (hn:nv.length=f.nodes.length) (hv:∀ i,(h:i<f.nodes.length)→0≤nv.getD i 0∧nv.getD i 0<f.nodes[i].vers.length) (hb:Br G bu [.slice Ap f.progs.length cp,.slice An f.nodes.length cn,.slice Ae f.edges.length ce,.slice Ar f.routes.length cr,.slice Au nv.length cu]) (hbo:Br G bo [.slice Ao o.length co]) (hoN:Cr G (.slice Ao o.length co) o) (hol:o.length≤1000) (ho:∀ i∈o,i<f.nodes.length)
  {lp:Nat} {H0:List Res} {J:Nat→Ghost→List Res→Prop} {K:Ghost→List Res→Prop} (hJm:∀ n G1 G2 H,Ghost.le G1 G2→J n G1 H→J n G2 H) (hKm:∀ G1 G2 H,Ghost.le G1 G2→K G1 H→K G2 H)
  (hY:∀ n x v G' H',(Rd f nv o)[n]?=some x→RxI G' v x→G.le G'→J n G' H'→Dm prog lp v G' H' fun b G'' H''=>(b=Vt∧J (n+1) G'' H''∧Hp H' H'')∨(b=Vf∧K G'' H'')) (hJ0:J 0 G H0) :
  Ai prog 64 [.func (.yield lp) #[] #[],Vp bu,Vp bo] G H0 fun _ G' H'=>J (Rd f nv o).length G' H'∨K G' H':=by
 obtain ⟨hc0,hc1,hcn,hce,hcr⟩:=On hC
 have hnz:=hz.n
 refine Ai.of_T [(0,_),(1,_),(2,_)] func64 rfl ntmps64 sM rfl fun w0 hs=>?_
 have hf0:=hf
 have hu0:=hu
 have hb0:=hb
 have hbo0:=hbo
 have hoN0:=hoN
 have hfe:=Hp.refl H0
 refine Wt 9 [0,0,1] hs rfl<|Zy hs (Yg rfl (hb 1 (.slice An f.nodes.length cn) rfl)<|Wp 3 [0] hs rfl ?_)
 have hs:=hs.nilRow 3 1
 refine Zl [0,1,2,4,11,12,13] (fun m E w=>∃ (k:Nat) (v4:Value) (G2:Ghost),k≤f.nodes.length∧J 0 G2 H0∧m=f.nodes.length-k∧E=⟨[],[(0,.func (.yield lp) #[] #[]),(1,Vp bu),(2,Vp bo),(4,v4),(11,.slice An f.nodes.length cn),(12,Vi ((f.nodes.length:Nat):Int)),(13,Vi (k:Int))]⟩∧St ⟨w0,G,Bl H0⟩ G2 (.row 3 1 v4 k (((Fl f).take k).map (.int .i64))::H0) w) rfl (⟨0,_,_,by omega,hJm _ _ _ _ hs.le hJ0,rfl,rfl,hs⟩) fun m E w hI=>?_
 obtain ⟨k,v4,G2,hk,hJ,rfl,rfl,hs⟩:=hI
 have hf:=hf0.mono hs.le
 have hu:=hu0.mono hs.le
 have hb:=hb0.mono hs.le
 have hbo:=hbo0.mono hs.le
 have hoN:=hoN0.mono hs.le
 have hlg:=Wf.refl G2
 refine Wt 2 [] hs rfl<|Zy hs (Yc rfl (fun h14=>?_) fun h14=>?_)
 ·
  refine Wp 8 [0] hs rfl<|Zy hs (Bv hf.n (k) underlying39 sizeOf76 rfl rfl rfl oM fun p15 c15 hp15 hc15 hR15=>?_)
  obtain ⟨u15,rfl,hv15⟩:=hR15
  obtain ⟨Av15,cv15,rfl,_⟩:=id hv15
  refine Zy hs (Cu (vs:=[.slice Av15 f.nodes[k].vers.length cv15,Vi f.nodes[k].runs,Vi f.nodes[k].claims,.bool f.nodes[k].up]) isAgg76 sizeOf76 rfl hp15 rfl<|O_s (Sa hs zeroValue76 rfl fun b6 _ hs=>O_n (Sg hs rfl (rfl) fun _ hs=>Wp 1 [0] hs rfl ?_)))
  have hrk:=(Lx (List.all_eq_true.1 hcn _ (List.getElem_mem (show k<f.nodes.length by omega)))).2.2.2.1
  refine Wu 6 [0,0,1,0] hs rfl<|Zy hs (Dl hv15 f.nodes[k].runs.toNat underlying33 sizeOf3 rfl rfl oM oM fun p22 hp22=>?_)
  rw [← kF oM hrk] at hp22
  refine Zy hs (Yg rfl (hp22)<|O_s (Se hs zeroValue3 rfl fun v1 _ hs _=>?_))
  obtain ⟨_,hG24,hl24,hs⟩:=hs.fixRow (eM hs hfe.tl.tl)
  replace hlg:=hlg.mono hG24
  have hs:=hs.front 1 rfl (H':=(_::_::H0)) rfl
  refine O_s (Bf hs underlying33 Lb rfl dC rfl rfl (hl24) (Fj rfl) oM Nj fun v2 _ hs =>Wp 3 [0] hs rfl<|Zy hs (Ya (s:=((k+1:Nat):Int)) rfl<|Wp 1 [] hs rfl ?_))
  have hs:=hs.front 1 rfl (H':=(_::_::H0)) rfl
  have hs:=hs.drop
  refine Zx [0,1,2,4,11,12,13] rfl ⟨k+1,_,_,by omega,hJm _ _ _ _ hlg hJ,rfl,rfl,Bz hs (by rw [Eh (by rw [Gb];omega),List.map_append];rfl)⟩
 refine Wp 4 [0] hs rfl ?_
 obtain rfl:k=f.nodes.length:=by omega
 rw [show (Fl f).take f.nodes.length=Fl f from List.take_of_length_le (by rw [Gb];omega)] at hs
 obtain ⟨_,hG_hx00,hx00,hs⟩:=hs.fixRow (eM hs hfe)
 replace hf:=hf.mono hG_hx00
 replace hu:=hu.mono hG_hx00
 replace hb:=hb.mono hG_hx00
 replace hbo:=hbo.mono hG_hx00
 replace hoN:=hoN.mono hG_hx00
 replace hlg:=hlg.mono hG_hx00
 have hx0:Bt _ v4 (Fl f):=Ww hx00 Gb.symm rfl
 refine Wu 5 [] hs rfl<|O_s (Ln (H1:=H0) (H:=[]) Z37 rfl rfl (hY 0 _ _ _ _ (fY _ _ _) ⟨_,rfl,hx0⟩ hs.le (hJm _ _ _ _ hlg hJ)) fun v G'' H'' w' hR hG29 hs=>?_)
 rcases hR with ⟨rfl,hJ,hC⟩ | ⟨rfl,hK⟩
 ·
  rw [List.append_nil] at hs
  replace hfe:=Hp.trans hfe hC
  replace hf:=hf.mono hG29
  replace hu:=hu.mono hG29
  replace hb:=hb.mono hG29
  replace hbo:=hbo.mono hG29
  replace hoN:=hoN.mono hG29
  replace hlg:=hlg.mono hG29
  replace hx0:=hx0.mono hG29
  refine Wp 6 [0] hs rfl<|Zy hs (Yg rfl (hbo 0 (.slice Ao o.length co) rfl)<|Wp 3 [0] hs rfl<|Zl [0,1,4,31,32,33] (fun m E w=>∃ (k:Nat) (x:List Int) (v4:Value) (G2:Ghost) (H'':List Res),k≤o.length∧(Rd f nv o)[k]?=some x∧Bt G2 v4 x∧J (k+1) G2 H''∧Hp H0 H''∧m=o.length-k∧E=⟨[],[(0,.func (.yield lp) #[] #[]),(1,Vp bu),(4,v4),(31,.slice Ao o.length co),(32,Vi ((o.length:Nat):Int)),(33,Vi (k:Int))]⟩∧St ⟨w0,G,Bl H0⟩ G2 H'' w) rfl (⟨0,_,_,_,_,by omega,fY _ _ _,hx0,hJ,hfe,rfl,rfl,hs⟩) fun m E w hI=>?_)
  obtain ⟨k,x,v4,G2,H'',hk,hx,hxI,hJ,hfe,rfl,rfl,hs⟩:=hI
  have hf:=hf0.mono hs.le
  have hu:=hu0.mono hs.le
  have hb:=hb0.mono hs.le
  have hbo:=hbo0.mono hs.le
  have hoN:=hoN0.mono hs.le
  have hlg:=Wf.refl G2
  have hxl:=fZ (Qf f nv) o (Fl f) x (List.mem_of_getElem? hx)
  rw [Gb] at hxl
  refine Wt 2 [] hs rfl<|Zy hs (Yc rfl (fun h34=>?_) fun h34=>?_)
  ·
   refine Wp 8 [0] hs rfl<|Zy hs (Eo hoN k underlying33 sizeOf3 rfl rfl rfl oM fun p35 hp35 =>Zy hs (Yg rfl (hp35)<|Wp 5 [0] hs rfl<|O_s (Et (H1:=[]) (H:=H'') hs rfl func32 rfl kR (pU hxI gO oM) fun v3 G' H' _ hR hG38 hs=>?_)))
   obtain ⟨rfl,_⟩:=hR
   replace hs:St _ _ (_::H'') _:=hs
   replace hf:=hf.mono hG38
   replace hu:=hu.mono hG38
   replace hb:=hb.mono hG38
   replace hlg:=hlg.mono hG38
   refine Wp 2 [0] hs rfl ?_
   have hoi:=ho _ (List.getElem_mem (show k<o.length by omega))
   have hvi:=hv _ hoi
   refine Wu 1 [] hs rfl<|Bc [0,1,2,3,4,5,6,7,8,9,10,11,12,13,14,15,16] hs kR ?_
   replace hs:=hs.drew
   refine Xr [0,1,2,3] [0,1] hs rfl<|Xt 4 hs rfl (Yg rfl (hb 1 (.slice An f.nodes.length cn) rfl)<|Xr [5] [] hs rfl<|Xt 6 hs rfl (Bv hf.n ((o[k]'oM)) underlying39 sizeOf76 rfl rfl rfl oM fun p45 c45 hp45 hc45 hR45=>?_))
   obtain ⟨u45,rfl,hv45⟩:=hR45
   obtain ⟨Av45,cv45,rfl,_⟩:=id hv45
   refine Xt 7 hs rfl (Jq O76_0.p rfl<|Xt 8 hs rfl (Yg rfl (hp45 0 _ rfl)<|Xr [9] [4] hs rfl<|Xt 10 hs rfl (Yg rfl (hb 4 (.slice Au nv.length cu) rfl)<|Xr [11] [] hs rfl<|Xt 12 hs rfl (Dl hu (o[k]'oM) underlying33 sizeOf3 rfl rfl rfl oM fun p51 hp51=>?_))))
   rw [← Ms] at hp51
   refine Xt 13 hs rfl (Yg rfl (hp51)<|Xt 14 hs rfl (Dl hv45 (nv.getD (o[k]'oM) 0).toNat underlying33 sizeOf3 rfl rfl oM oM fun p53 hp53=>?_))
   rw [← zS hoi (hv _ hoi)] at hp53
   refine Xt 15 hs rfl (Yg rfl (hp53) ?_)
   obtain ⟨bz,cz,hzbz,_⟩:=hs.rowForm 0 rfl oM
   subst hzbz
   refine Xt 16 hs rfl (Bj ((o[k]'oM)) underlying33 sizeOf3 rfl rfl rfl oM<|Xn 17 rfl (Ct hs sizeOf3 rfl rfl rfl oM fun _ hs =>Xe (Zk [0,1,4,31,32,33] rfl ?_)))
   have hst':=qA (Qf f nv) o (Fl f) k oM x hx
   obtain ⟨_,hG_hyr,hyr,hs⟩:=hs.fixRow (eM hs hfe)
   replace hlg:=hlg.mono hG_hyr
   have hy:Bt _ _ (x.set (o[k]'oM) ((Qf f nv).getD (o[k]'oM) 0)):=Ww hyr sM sM
   refine Wu 4 [] hs rfl<|O_s (Ln (H1:=H'') (H:=[]) Z37 rfl rfl (hY (k+1) _ _ _ _ hst' ⟨_,rfl,hy⟩ hs.le (hJm _ _ _ _ hlg hJ)) fun v G'' H'' w' hR hG58 hs=>?_)
   rcases hR with ⟨rfl,hJ,hC⟩ | ⟨rfl,hK⟩
   ·
    rw [List.append_nil] at hs
    replace hfe:=Hp.trans hfe hC
    replace hy:=hy.mono hG58
    refine Wp 5 [0] hs rfl<|Zy hs (Ya (s:=((k+1:Nat):Int)) rfl<|Wp 1 [] hs rfl<|Zx [0,1,4,31,32,33] rfl ⟨k+1,_,_,_,_,by omega,hst',hy,hJ,hfe,rfl,rfl,hs⟩)
   rw [List.append_nil] at hs
   refine Wp 3 [0] hs rfl<|Ah ?_
   refine Bi (vs:=[]) results64 rfl trivial ?_
   try dsimp only [tup]
   exact ⟨_,_,hs,.inr hK⟩
  refine Wp 4 [0] hs rfl ?_
  try dsimp only [Ex.At,Ex.sqs,Ex.sq,Ex.lp,Ex.bk]
  try rw [show Nat.beq _ _=true from Nat.beq_refl _,cond_true]
  refine Ez (vs:=[]) results64 rfl trivial ?_
  try dsimp only [tup]
  obtain rfl:k=o.length:=by omega
  exact ⟨_,_,hs,.inl (by rw [show (Rd f nv o).length=o.length+1 from fX _ _ _];exact hJ)⟩
 rw [List.append_nil] at hs
 refine Wp 3 [0] hs rfl<|Ah ?_
 refine Bi (vs:=[]) results64 rfl trivial ?_
 try dsimp only [tup]
 exact ⟨_,_,hs,.inr hK⟩
theorem bJ {G:Ghost} {bu bo:Nat} {Ao:Option Addr} {co:Nat} {o:List Nat} {Ap An Ae Ar:Option Addr} {cp cn ce cr:Nat} {f:Bw} {Au:Option Addr} {cu:Nat} {nv:List Int} (hf:Hb G Ap An Ae Ar cp cn ce cr f) (hu:Bt G (.slice Au nv.length cu) nv) (hz:tY f) (hC:Dh f=0) (hn:nv.length=f.nodes.length) (hv:∀ i,(h:i<f.nodes.length)→0≤nv.getD i 0∧nv.getD i 0<f.nodes[i].vers.length) (hb:Br G bu [.slice Ap f.progs.length cp,.slice An f.nodes.length cn,.slice Ae f.edges.length ce,.slice Ar f.routes.length cr,.slice Au nv.length cu]) (hbo:Br G bo [.slice Ao o.length co]) (hoN:Cr G (.slice Ao o.length co) o) (hol:o.length≤1000) (ho:∀ i∈o,i<f.nodes.length) :
    Vis prog 64 [Vp bu,Vp bo] RxI (Rd f nv o) G:=fun lp H0 G0 J K hle hJm hKm hY hJ0 =>
  sta1_ok (hf.mono hle) (hu.mono hle) hz hC hn hv (hb.mono hle) (hbo.mono hle) (hoN.mono hle) hol ho hJm hKm hY hJ0
end Go.Proofs.YtngdgnolkilheaaGreatDoor
namespace Go.Proofs.YtngdgnolkilheaaGreatDoor
open Go Go.Ex Go.RowKit Go.Proofs.Tryz
open Pl
theorem zT {G:Ghost} {n:Nat} (hn:n≤1000000) :
  Ai prog 83 [Vn,Vi (n:Int)] G [] fun r _ H'=>H'=[.row 3 1 r 0 []]:=by
 refine Ai.of_T [(0,_),(1,_)] func83 rfl ntmps83 sM rfl fun w0 hs =>Wt 8 [0] hs rfl<|Zy hs (Di rfl rfl rfl oM<|Wp 8 [0] hs rfl<|Zy hs (Y_cap underlying33 rfl<|Wp 2 [] hs rfl<|Zy hs (Fc (c:=0) rfl rfl oM oM<|Zy hs (Fc (c:=(n:Int)) rfl rfl oM oM<|Wp 5 [0] hs rfl<|Zy hs (Yc rfl (fun h16=>?_) fun h16=>?_)))))
 ·
  refine Wp 5 [0] hs rfl<|Zy hs (Y_cap underlying33 rfl<|Zy hs (Xq 0 underlying33 sizeOf3 rfl rfl rfl oM<|Wp 1 [] hs rfl<|O_s (qV hs underlying33 underlying3 Lb rfl rfl rfl oM oM oM fun bz cz xz _ hcz hs =>Wp 2 [] hs rfl<|Zy hs (Xq 0 underlying33 sizeOf3 rfl rfl rfl oM<|Wp 7 [1,0,0] hs rfl<|Ah<|Zz results83 rfl ?_))))
  have hs:=hs.rowTake (m:=0) oM
  exact ⟨_,_,hs,by simp⟩
 refine Wp 8 [0,0] hs rfl<|Ah<|Zz results83 rfl ?_
 exact ⟨_,_,hs.nilRow 3 1,rfl⟩
theorem fl_le {α:Type} {l:List (List α)} {k:Nat} (h:k<l.length):(l.take k).flatten.length+l[k].length≤l.flatten.length:=by
  conv=>rhs;rw [← List.take_append_drop k l,List.drop_eq_getElem_cons h]
  simp only [List.flatten_append,List.flatten_cons,List.length_append];omega
theorem qF {α:Type} {l:List (List α)} {k:Nat} (h:k<l.length):(l.take (k+1)).flatten=(l.take k).flatten++l[k]:=by
  rw [Eh h,List.flatten_append];simp
theorem coni_ok {G:Ghost} {A:Option Addr} {cap:Nat} {l:List (List Int)} (hl:Rts G (.slice A l.length cap) l) (hn:l.length≤1000000) (hm:l.flatten.length≤1000000) :
  Ai prog 55 [(.slice A l.length cap)] G [] fun r G' H'=>H'=[]∧Bt G' r l.flatten:=by
 refine Ai.of_T [(0,_)] func55 rfl ntmps55 sM rfl fun w0 hs=>?_
 have hl0:=hl
 refine Wt 15 [0,0,0] hs rfl<|Zl [0,3,9,10,11] (fun m E w=>∃ (k:Nat) (G2:Ghost),k≤l.length∧m=l.length-k∧E=⟨[],[(0,(.slice A l.length cap)),(3,Vi ((l.take k).flatten.length:Int)),(9,(.slice A l.length cap)),(10,Vi ((l.length:Nat):Int)),(11,Vi (k:Int))]⟩∧St ⟨w0,G,Bl []⟩ G2 [] w) rfl (⟨0,_,by omega,rfl,rfl,hs⟩) fun m E w hI=>?_
 obtain ⟨k,G2,hk,rfl,rfl,hs⟩:=hI
 have hl:=hl0.mono hs.le
 refine Wt 2 [] hs rfl<|Zy hs (Yc rfl (fun h12=>?_) fun h12=>?_)
 ·
  refine Wp 8 [0] hs rfl<|Zy hs (Bv hl (k) underlying41 sizeOf33 rfl rfl rfl oM fun p13 c13 hp13 hc13 hR13=>?_)
  obtain ⟨u13,rfl,hv13⟩:=hR13
  obtain ⟨Av13,cv13,rfl,_⟩:=id hv13
  refine Zy hs (Yg rfl (hp13 0 _ rfl)<|Wp 7 [0] hs rfl<|Zy hs (Eb (c:=(((l.take k).flatten.length+l[k].length:Nat):Int)) rfl rfl Z31 Z31<|Wp 5 [0] hs rfl<|Zy hs (Di rfl rfl rfl oM<|Wp 4 [0] hs rfl<|Zy hs (Ya (s:=((k+1:Nat):Int)) rfl<|Wp 1 [] hs rfl<|Zx [0,3,9,10,11] rfl ⟨k+1,_,by omega,rfl,by rw [qF oM,List.length_append],hs⟩))))
 refine Wp 4 [0] hs rfl<|Wu 3 [] hs rfl<|O_s (Sc (zT (n:=(l.take k).flatten.length) (by rw [List.take_of_length_le oM];exact hm)) hs rfl fun v1 G' H' _ hR hG24 hs=>?_)
 obtain rfl:=hR
 replace hs:=hs.n rfl
 replace hl:=hl.mono hG24
 refine Wp 9 [0,0] hs rfl<|Zl [6,25,26,27] (fun m E w=>∃ (k:Nat) (v3:Value) (G2:Ghost),k≤l.length∧m=l.length-k∧E=⟨[],[(6,v3),(25,(.slice A l.length cap)),(26,Vi ((l.length:Nat):Int)),(27,Vi (k:Int))]⟩∧St ⟨w0,G,Bl []⟩ G2 [.row 3 1 v3 (l.take k).flatten.length ((l.take k).flatten.map (.int .i64))] w) rfl (⟨0,_,_,by omega,rfl,rfl,hs⟩) fun m E w hI=>?_
 obtain ⟨k,v3,G2,hk,rfl,rfl,hs⟩:=hI
 have hl:=hl0.mono hs.le
 refine Wt 2 [] hs rfl<|Zy hs (Yc rfl (fun h28=>?_) fun h28=>?_)
 ·
  refine Wp 8 [0] hs rfl<|Zy hs (Bv hl (k) underlying41 sizeOf33 rfl rfl rfl oM fun p29 c29 hp29 hc29 hR29=>?_)
  obtain ⟨u29,rfl,hv29⟩:=hR29
  obtain ⟨Av29,cv29,rfl,_⟩:=id hv29
  refine Zy hs (Yg rfl (hp29 0 _ rfl)<|Wp 5 [0] hs rfl<|O_s (Bf hs underlying33 Lb rfl dC rfl rfl (hv29) (gO) Z31 Z31 fun v2 _ hs =>Wp 3 [0] hs rfl<|Zy hs (Ya (s:=((k+1:Nat):Int)) rfl<|Wp 1 [] hs rfl<|Zx [6,25,26,27] rfl ⟨k+1,_,_,by omega,rfl,rfl,by rw [qF oM,List.length_append,List.map_append];exact hs⟩)))
 refine Wp 4 [0] hs rfl<|Wu 5 [0] hs rfl<|Ah<|Zz results55 rfl ?_
 obtain rfl:k=l.length:=by omega
 rw [List.take_length] at hs
 obtain ⟨G',hG,hf,hs3⟩:=hs.fixRow noM
 exact ⟨G',[],hs3,rfl,hf⟩
theorem qG {G:Ghost} {Ap:Option Addr} {np cp:Nat} {Ar:Option Addr} {nr cr:Nat} :
  Ai prog 29 [.slice Ap np cp,.slice Ar nr cr] G [] fun r G' H'=>H'=[]∧∃ br bp,r=.func (.func 54) #[] #[Vp br,Vp bp]∧Br G' bp [.slice Ap np cp]∧Br G' br [.slice Ar nr cr]:=by
 refine Ai.of_T [(0,_),(1,_)] func29 rfl ntmps29 sM rfl fun w0 hs =>Wt 2 [] hs rfl<|O_s (Sb hs rfl fun b2 _ hs=>O_s (Sb hs rfl fun b3 _ hs=>Wp 4 [0] hs rfl<|Zy hs (Dn (vs:=[_,_]) rfl<|Wp 2 [0] hs rfl<|Ah ?_)))
 have hs:=hs.f1
 obtain ⟨_,hGbhQp,hQp,hs⟩:=hs.fixBlk (fun k _=>Ht k)
 replace hQp:Br _ b2 _:=hQp
 obtain ⟨_,hGbhQr,hQr,hs⟩:=hs.fixBlk (fun k _=>Ht k)
 replace hQp:=hQp.mono hGbhQr
 replace hQr:Br _ b3 _:=hQr
 refine Zz results29 rfl ?_
 exact ⟨_,[],hs.done,rfl,_,_,rfl,hQp,hQr⟩
theorem rts_two {G:Ghost} {v a b:Value} {l m:List Int} (h:Sl G v 1 2 [a,b]) (ha:Bt G a l) (hb:Bt G b m):Rts G v [l,m]:=⟨[[a],[b]],h,⟨⟨a,rfl,ha⟩,⟨b,rfl,hb⟩,trivial⟩,by simp⟩
theorem qH:∀ {f:Nat} {p l:List Nat},l=[]→Hh f p l=[p]
  | 0,_,_,_=>rfl
  | f+1,p,l,h=>by rw [Hh,if_pos h]
def ordG (f:Nat) (p l:List Nat) (i:Nat):List (List Nat):=Hh f (p++[l.getD i 0]) (l.eraseIdx i)
theorem kG {f:Nat} {p l:List Nat} (h:¬ l=[]):Hh (f+1) p l=(List.range l.length).flatMap (ordG f p l):=by rw [Hh,if_neg h];rfl
theorem intsN {G:Ghost} {v:Value} {l:List Nat} (h:Bt G v (l.map fun x:Nat=>(x:Int))):Cr G v l:=by
  unfold Cr;unfold Bt at h;rw [List.length_map,List.map_map] at h;exact h
theorem nD {l:List Nat} {i:Nat}:([((l.map fun x:Nat=>(x:Int)).drop 0).take (i-0),((l.map fun x:Nat=>(x:Int)).drop (i+1)).take (l.length-(i+1))]:List (List Int)).flatten=(l.eraseIdx i).map fun x:Nat=>(x:Int):=by
  rw [List.eraseIdx_eq_take_drop_succ,List.map_append,List.map_take,List.map_drop,List.drop_zero,Nat.sub_zero]
  simp
  exact List.take_of_length_le sM
def OrdV (f:Nat):Prop:=∀ (G:Ghost) (br bp:Nat) (Ap Al:Option Addr) (cp cl:Nat) (p l:List Nat),l.length=f→p.length≤100→Br G bp [.slice Ap p.length cp]→Br G br [.slice Al l.length cl]→Cr G (.slice Ap p.length cp) p→Cr G (.slice Al l.length cl) l→l.length≤100-p.length→Vis prog 54 [Vp br,Vp bp] RxN (Hh f p l) G
theorem ord1_ok {G:Ghost} {br bp fu:Nat} {Ap Al:Option Addr} {cp cl:Nat} {p l:List Nat} (hfl:l.length=fu) (hpl:p.length≤100) (hll:l.length≤100-p.length) (hI:∀ f',fu=f'+1→OrdV f') (hbp:Br G bp [.slice Ap p.length cp]) (hbr:Br G br [.slice Al l.length cl]) (hpN:Cr G (.slice Ap p.length cp) p) (hlN:Cr G (.slice Al l.length cl) l)
  {lp:Nat} {H0:List Res} {J:Nat→Ghost→List Res→Prop} {K:Ghost→List Res→Prop} (hJm:∀ n G1 G2 H,Ghost.le G1 G2→J n G1 H→J n G2 H) (hKm:∀ G1 G2 H,Ghost.le G1 G2→K G1 H→K G2 H)
  (hY:∀ n x v G' H',(Hh fu p l)[n]?=some x→RxN G' v x→G.le G'→J n G' H'→Dm prog lp v G' H' fun b G'' H''=>(b=Vt∧J (n+1) G'' H''∧Hp H' H'')∨(b=Vf∧K G'' H'')) (hJ0:J 0 G H0) :
  Ai prog 54 [.func (.yield lp) #[] #[],Vp br,Vp bp] G H0 fun _ G' H'=>J (Hh fu p l).length G' H'∨K G' H':=by
 refine Ai.of_TM [(0,_),(1,_),(2,_)] func54 rfl ntmps54 sM rfl fun w0 hs=>?_
 have hbp0:=hbp
 have hbr0:=hbr
 have hpN0:=hpN
 have hlN0:=hlN
 have hfe:=Hp.refl H0
 refine Wt 2 [] hs rfl<|O_s (Sb hs rfl fun b3 _ hs=>Wp 1 [0] hs rfl ?_)
 obtain ⟨_,hGb3,hb3,hs⟩:=hs.fixBlk (eM hs hfe)
 replace hb3:Br _ b3 _:=hb3
 replace hbp:=hbp.mono hGb3
 replace hbr:=hbr.mono hGb3
 replace hpN:=hpN.mono hGb3
 replace hlN:=hlN.mono hGb3
 replace hJ0:=hJm _ _ _ _ hs.le hJ0
 refine Wu 3 [] hs rfl<|Zy hs (Yg rfl (hbr 0 (.slice Al l.length cl) rfl)<|Wp 1 [] hs rfl<|Zy hs (Yc rfl (fun h10=>?_) fun h10=>?_))
 ·
  have hnil:l=[]:=List.eq_nil_of_length_eq_zero oM
  refine Wp 4 [0] hs rfl<|Zy hs (Yg rfl (hb3 0 (.func (.yield lp) #[] #[]) rfl)<|Zy hs (Yg rfl (hbp 0 (.slice Ap p.length cp) rfl)<|O_s (Ln (H1:=H0) (H:=[]) Z37 rfl rfl (hY 0 _ _ _ _ (by rw [qH hnil];rfl) ⟨_,rfl,hpN⟩ hs.le hJ0) fun v G'' H'' w' hR hG13 hs=>?_)))
  rcases hR with ⟨rfl,hJ,hC⟩ | ⟨rfl,hK⟩
  ·
   rw [List.append_nil] at hs
   refine Wp 1 [0] hs rfl<|Ah<|Hf (Ds:=[]) hs (vs:=[]) results54 rfl (fun _ hs=>⟨trivial,?_⟩)
   exact ⟨_,_,hs,.inl (by rw [qH hnil];exact hJ)⟩
  rw [List.append_nil] at hs
  refine Wp 1 [0] hs rfl<|Ah<|Hf (Ds:=[]) hs (vs:=[]) results54 rfl (fun _ hs=>⟨trivial,?_⟩)
  exact ⟨_,_,hs,.inr hK⟩
 have hne:¬ l=[]:=fun h=>h10 (by rw [h];rfl)
 obtain ⟨f',rfl⟩:∃ f',fu=f'+1:=⟨fu-1,by omega⟩
 replace hI:=hI f' rfl
 refine Wp 5 [0] hs rfl<|Zy hs (Yg rfl (hbr 0 (.slice Al l.length cl) rfl)<|Wp 3 [0] hs rfl ?_)
 have hs:=hs.marks0
 refine Zl [1,2,3,14,15,16] (fun m E w=>∃ (i:Nat) (Ds:List Nat) (G2:Ghost) (H'':List Res),i≤l.length∧J ((List.range i).flatMap (ordG f' p l)).length G2 H''∧Hp H0 H''∧Br G2 b3 [.func (.yield lp) #[] #[]]∧m=l.length-i∧E=⟨Yz Ds,[(1,Vp br),(2,Vp bp),(3,Vp b3),(14,.slice Al l.length cl),(15,Vi ((l.length:Nat):Int)),(16,Vi (i:Int))]⟩∧St ⟨w0,G,Bl H0⟩ G2 (H''++Cc Ds) w) rfl (⟨0,[],_,_,by omega,hJ0,hfe,hb3,rfl,rfl,hs⟩) fun m E w hI=>?_
 obtain ⟨i,Ds,G2,H'',hi,hJ,hfe,hb3,rfl,rfl,hs⟩:=hI
 have hbp:=hbp0.mono hs.le
 have hbr:=hbr0.mono hs.le
 have hpN:=hpN0.mono hs.le
 have hlN:=hlN0.mono hs.le
 have hs00:=hs
 have hlg:=Wf.refl G2
 refine Wt 2 [] hs rfl<|Zy hs (Yc rfl (fun h17=>?_) fun h17=>?_)
 ·
  refine Wp 9 [0] hs rfl<|Zy hs (Eo hlN i underlying33 sizeOf3 rfl rfl rfl oM fun p19 hp19=>?_)
  rw [show l[i]'oM=l.getD i 0 from by rw [List.getD_eq_getElem?_getD,List.getElem?_eq_getElem oM];rfl] at hp19
  refine Zy hs (Yg rfl (hp19)<|Wp 4 [0] hs rfl<|Bc [0,1,2,3,4,5,6,7,8,9] hs kR ?_)
  replace hs:=hs.drew
  refine Xt 0 hs rfl (Yg rfl (hbr 0 (.slice Al l.length cl) rfl)<|Xr [1] [] hs rfl<|Xt 2 hs rfl (Nt (Vl hlN) 0 i underlying33 sizeOf3 rfl rfl ⟨_,_,rfl,rfl⟩ oM Nj fun s23 hs23=>?_))
  obtain ⟨A23,c23,rfl,_⟩:=id hs23
  refine Xt 3 hs rfl (Yg rfl (hbr 0 (.slice Al l.length cl) rfl)<|Xr [4] [] hs rfl<|Xt 5 hs rfl (Ya (s:=((i+1):Int)) rfl<|Xt 6 hs rfl (Nt (Vl hlN) (i+1) l.length underlying33 sizeOf3 rfl ⟨_,_,rfl,rfl⟩ (by simp [bnd]) oM sM fun s27 hs27=>?_)))
  obtain ⟨A27,c27,rfl,_⟩:=id hs27
  have hle:=hs.le
  refine Xo 7 rfl (Ca hs underlying41 sizeOf33 zeroValue33 rfl rfl dC dC rfl (cs:=[_,_]) rfl rfl fun v1 _ hs _=>?_)
  have hsN:=hs.fixRow (eM hs hfe.app)
  clear hs
  obtain ⟨_,hG28,hl28,hs⟩:=hsN
  replace hbp:=hbp.mono hG28
  replace hpN:=hpN.mono hG28
  replace hb3:=hb3.mono hG28
  replace hlg:=hlg.mono hG28
  replace hs23:=hs23.mono hG28
  replace hs27:=hs27.mono hG28
  obtain ⟨A28,c28,rfl,_⟩:=id hl28
  refine Am hs hle hG28 (lSr _) ?_
  have hrt:Rts _ _ [_,_]:=rts_two hl28 hs23 hs27
  have hle:=hs.le
  refine Xo 8 rfl (Et (H1:=[]) (H:=(H''++Cc Ds)) hs rfl func55 rfl kR (coni_ok (l:=[_,_]) hrt sM Nj) fun v2 G' H' _ hR hG29 hs=>?_)
  obtain ⟨rfl,hcon⟩:=hR
  replace hs:St _ _ ((H''++Cc Ds)) _:=hs
  replace hbp:=hbp.mono hG29
  replace hpN:=hpN.mono hG29
  replace hb3:=hb3.mono hG29
  replace hlg:=hlg.mono hG29
  rw [nD] at hcon
  have hbelow:=intsN hcon
  clear hcon
  obtain ⟨A29,c29,rfl,_⟩:=id hbelow
  refine Am hs hle hG29 (lSr _)<|Xr [9] [] hs rfl<|Xe (Zk [1,2,3,5,6,14,15,16] rfl<|Wu 2 [] hs rfl<|Zy hs (Yg rfl (hbp 0 (.slice Ap p.length cp) rfl)<|O_s (Et (H1:=[]) (H:=(H''++Cc Ds)) hs rfl func32 rfl kR (pU hpN (Sn _) oM) fun v3 G' H' _ hR hG31 hs=>?_)))
  obtain ⟨rfl,_⟩:=hR
  replace hs:St _ _ (_::(H''++Cc Ds)) _:=hs
  replace hb3:=hb3.mono hG31
  replace hlg:=hlg.mono hG31
  replace hbelow:=hbelow.mono hG31
  refine Wp 1 [] hs rfl<|O_s (Ca hs underlying33 sizeOf3 zeroValue3 rfl rfl dC dC rfl (cs:=[_]) rfl rfl fun v4 _ hs _=>?_)
  obtain ⟨_,hG33,hl33,hs⟩:=hs.fixRow (eM hs hfe.app.tl)
  replace hb3:=hb3.mono hG33
  replace hlg:=hlg.mono hG33
  replace hbelow:=hbelow.mono hG33
  refine O_s (Bf hs underlying33 Lb rfl dC rfl rfl (hl33) (Fj rfl) oM Nj fun v5 _ hs =>Wp 1 [] hs rfl ?_)
  have hsN:=hs.fixRow (eM hs hfe.app)
  clear hs
  obtain ⟨_,hG_hpr,hpr,hs⟩:=hsN
  replace hb3:=hb3.mono hG_hpr
  replace hlg:=hlg.mono hG_hpr
  replace hbelow:=hbelow.mono hG_hpr
  have hpN2:Cr _ _ (p++[l.getD i 0]):=Cr.ofSl hpr sM sM
  clear hpr
  obtain ⟨A34,c34,rfl,_⟩:=id hpN2
  refine O_s (Et (H1:=[]) (H:=(H''++Cc Ds)) hs rfl func29 rfl kR (qG) fun v6 G' H' _ hR hG36 hs=>?_)
  obtain ⟨rfl,br',bp',rfl,hQp,hQr⟩:=hR
  replace hs:St _ _ ((H''++Cc Ds)) _:=hs
  replace hb3:=hb3.mono hG36
  replace hlg:=hlg.mono hG36
  replace hbelow:=hbelow.mono hG36
  replace hpN2:=hpN2.mono hG36
  refine Wp 1 [0] hs rfl ?_
  have hV:=hI _ _ _ _ _ _ _ (p++[l.getD i 0]) (l.eraseIdx i) (by rw [List.length_eraseIdx_of_lt oM];omega) Nj hQp hQr hpN2 hbelow (by simp [List.length_eraseIdx_of_lt (show i<l.length by omega)];omega)
  refine Wu 1 [] hs rfl<|oG (fun n G' H'=>J (((List.range i).flatMap (ordG f' p l)).length+n) G' H') (fun cd G' H'=>cd=.ret∧K G' H') hV hs rfl func54 rfl kR (hJm _ _ _ _ hlg hJ) (fun _ _ _ _ h h2=>hJm _ _ _ _ h h2) (fun _ _ _ _ h h2=>⟨h2.1,hKm _ _ _ h h2.2⟩) ?round ?done ?early
  case round =>
   intro lq D rec n x v G' H2 hp ha hbd hst hpe hAg hx hv hle hJ
   obtain ⟨state,pending,fn',tmps,params,assign,body,defers⟩:=rec
   dsimp only at hp ha hbd hst hpe hAg
   subst hst hpe
   obtain ⟨u,rfl,huN⟩:=hv
   subst hp ha hbd
   have hxs:=Wv (ordG f' p l) (show i<l.length by omega) hx
   replace hb3:=hb3.mono hle
   replace hlg:=hlg.mono hle
   refine Dm.of_TX hAg rfl rfl sM rfl fun w1 hs =>Wt 2 [] hs rfl<|Cl ⟨hs,fun w2 hs=>?_⟩
   have hs:=hs.swap (A:=[.obj lq _,.obj D _])
   refine Wt 3 [] hs rfl<|Zy hs (Yg rfl (hb3 0 (.func (.yield lp) #[] #[]) rfl)<|Wp 1 [] hs rfl<|O_s (Ln (H1:=H2) (H:=[.obj lq _,.obj D _]) hs rfl rfl (hY _ _ _ _ _ (by rw [kG hne];exact hxs) ⟨_,rfl,huN⟩ (Ghost.le.trans hs00.le hlg) hJ) fun v G'' H'' w' hR hG40 hs=>?_))
   rcases hR with ⟨rfl,hJ,hC⟩ | ⟨rfl,hK⟩
   ·
    have hs:=hs.swap
    refine Wp 4 [0] hs rfl ?_
    refine ⟨_,_,hs,.inl ⟨rfl,_,rfl,hJ,hC⟩⟩
   have hs:=hs.swap
   refine Wp 3 [0] hs rfl<|Ah ?_
   exact ⟨_,_,hs,.inr ⟨rfl,_,.ret,rfl,rfl,hK⟩⟩
  case done =>
   intro lq D o' G' H2 w' hJ hC hle hs
   replace hs:=hs.mark
   replace hfe:=Hp.trans hfe hC
   replace hb3:=hb3.mono hle
   refine Zr<|Zy hs (Ya (s:=((i+1):Int)) rfl<|Wp 1 [] hs rfl<|Zx [1,2,3,14,15,16] rfl ⟨i+1,_,_,_,by omega,by rw [Pl.flat_len];exact hJ,hfe,hb3,rfl,rfl,hs⟩)
  case early =>
   rintro lq D o' cd G' H2 w' ⟨rfl,hK⟩ hle hs
   replace hs:=hs.mark.swap
   refine Ah<|Hf (Ds:=D::Ds) hs (vs:=[]) results54 rfl (fun _ hs=>⟨trivial,?_⟩)
   exact ⟨_,_,hs,.inr hK⟩
 refine Wp 4 [0] hs rfl ?_
 try dsimp only [Ex.At,Ex.sqs,Ex.sq,Ex.lp,Ex.bk]
 try rw [show Nat.beq _ _=true from Nat.beq_refl _,cond_true]
 obtain rfl:i=l.length:=by omega
 replace hs:=hs.swap
 refine rK hs (vs:=[]) results54 rfl (fun _ hs=>⟨trivial,?_⟩)
 exact ⟨_,_,hs,.inl (by rw [kG hne];exact hJ)⟩
theorem bK:∀ (n:Nat),OrdV n
  | n,G,br,bp,Ap,Al,cp,cl,p,l,hfl,hpl,hbp,hbr,hpN,hlN,hll=>fun lp H0 G0 J K hle hJm hKm hY hJ0 =>
    ord1_ok hfl hpl hll (fun f' h=>bK f') (hbp.mono hle) (hbr.mono hle) (hpN.mono hle) (hlN.mono hle) hJm hKm hY hJ0
termination_by n=>n
decreasing_by omega
theorem app0 {c:Ctx} {G:Ghost} {H:List Res} {w:World} (h:St c G H w):St c G (H++[]) w:=by rw [List.append_nil];exact h
def nE (G:Ghost) (c:List Value) (r:List Bool):Prop:=∃ v,c=[v]∧Hq G v r
theorem nE.mono {G G':Ghost} (h:G.le G') {c:List Value} {r:List Bool} (hr:nE G c r):nE G' c r:=by
  obtain ⟨v,e,hv⟩:=hr
  exact ⟨v,e,hv.mono h⟩
def gJ (G:Ghost) (v:Value) (s:List (List Bool)):Prop:=Be 1 nE G v s
theorem gJ.mono {G G':Ghost} (h:G.le G') {v:Value} {s:List (List Bool)} (hs:gJ G v s):gJ G' v s:=Be.mono (fun _ _ hp=>hp.mono h) h hs
structure SOk (f:Bw) (s:List (List Bool)):Prop where
  n:s.length=f.progs.length
  r:∀ r∈s,r.length=f.progs.length
theorem saf_at {f:Bw} {s:List (List Bool)} (h:SOk f s) {a b:Int} (ha:0≤a∧a<f.progs.length) (hb:0≤b∧b<f.progs.length):((s[a.toNat]'(by rw [h.n];omega)).map Bb)[b.toNat]?=some (.bool (Pw s a b)):=by
  have h1:a.toNat<s.length:=by rw [h.n];omega
  have h2:b.toNat<s[a.toNat].length:=by rw [h.r _ (List.getElem_mem h1)];omega
  have e:Pw s a b=s[a.toNat][b.toNat]:=by
    unfold Pw
    rw [List.getD_eq_getElem?_getD (l:=s),List.getElem?_eq_getElem h1,Option.getD_some,List.getD_eq_getElem?_getD,List.getElem?_eq_getElem h2];rfl
  rw [e];exact Sq h2
theorem Uv {f:Bw}:∀ {u u':List Int},Ik f u→Ik f u'→u=u':=by
  have key:∀ (u u':List Int),u.Pairwise (·<·)→u'.Pairwise (·<·)→(∀ x,x∈u↔x∈u')→u=u':=by
    intro u
    induction u with
    | nil=>intro u' _ _ h;cases u' with
      | nil=>rfl
      | cons a u'=>exact absurd ((h a).2 List.mem_cons_self) sM
    | cons a u ih =>
      intro u' h1 h2 h
      cases u' with
      | nil=>exact absurd ((h a).1 List.mem_cons_self) sM
      | cons b u' =>
        obtain ⟨ha,k1⟩:=List.pairwise_cons.1 h1
        obtain ⟨hb,k2⟩:=List.pairwise_cons.1 h2
        have hab:a=b:=by
          rcases List.mem_cons.1 ((h a).1 List.mem_cons_self) with e | e
          · exact e
          · rcases List.mem_cons.1 ((h b).2 List.mem_cons_self) with e' | e'
            · exact e'.symm
            · have:=hb _ e;have:=ha _ e';omega
        subst hab
        congr 1
        refine ih u' k1 k2 fun x=>⟨fun hx=>?_,fun hx=>?_⟩
        · rcases List.mem_cons.1 ((h x).1 (List.mem_cons_of_mem _ hx)) with e | e
          · have:=ha _ hx;omega
          · exact e
        · rcases List.mem_cons.1 ((h x).2 (List.mem_cons_of_mem _ hx)) with e | e
          · have:=hb _ hx;omega
          · exact e
  intro u u' h h'
  exact key u u' h.1 h'.1 fun x=>(h.2 x).trans (h'.2 x).symm
theorem st_in {f:Bw} {nv:List Int} (hU:eB f nv) {o:List Nat} {x:List Int} (h:x∈Rd f nv o):x.length=f.nodes.length∧∀ y∈x,0≤y∧y<f.progs.length:=by
  obtain ⟨hc0,hc1,hcn,hce,hcr⟩:=On hU.c
  refine ⟨(fZ _ _ _ _ h).trans Gb,?_⟩
  have hv:∀ k,(hk:k<f.nodes.length)→∀ y∈f.nodes[k].vers,0≤y∧y<(f.progs.length:Int):=fun k hk y hy =>
    (Lx (List.all_eq_true.1 hcn _ (List.getElem_mem hk))).2.2.1 y hy
  refine zO (Qf f nv) (p:=fun y=>0≤y∧y<f.progs.length) (fun i=>?_) o (Fl f) x (fun y hy=>?_) h
  · rcases Nat.lt_or_ge i f.nodes.length with hi | hi
    · rw [zS hi (hU.v i hi)];exact hv i hi _ (List.getElem_mem _)
    · have:(Qf f nv).getD i 0=0:=by
        unfold Qf;rw [List.getD_eq_getElem?_getD,List.getElem?_eq_none Nj];rfl
      show 0≤(Qf f nv).getD i 0∧(Qf f nv).getD i 0<_
      rw [this];omega
  · obtain ⟨k,hk,rfl⟩:=List.getElem_of_mem hy
    rw [Gb] at hk
    rw [kF hk (Lx (List.all_eq_true.1 hcn _ (List.getElem_mem hk))).2.2.2.1]
    exact hv k hk _ (List.getElem_mem _)
theorem ed_at {f:Bw} {nv:List Int} (hU:eB f nv) {u:List Int} (hu:Ik f u) {e:Int} (he:e∈u):∃ i a b:Nat,∃ h:i<f.edges.length,e=(i:Int)∧f.edges[i]=((a:Int),(b:Int))∧a<f.nodes.length∧b<f.nodes.length∧kY f e=(a,b):=by
  obtain ⟨hc0,hc1,hcn,hce,hcr⟩:=On hU.c
  obtain ⟨i,hi,rfl,_⟩:=used_at hu hcr he
  obtain ⟨⟨h1,h2⟩,⟨h3,h4⟩,_⟩:=zB hce (List.getElem_mem hi)
  refine ⟨i,f.edges[i].1.toNat,f.edges[i].2.toNat,hi,rfl,?_,by omega,by omega,?_⟩
  · exact Prod.ext Nj Nj
  · unfold kY;rw [Int.toNat_natCast,List.getElem?_eq_getElem hi]
theorem qI {f:Bw} {nv:List Int} {s:List (List Bool)} {u:List Int} {o:List Nat} {k:Nat} (h:k<u.length):Ho f nv s (u.take (k+1)) o=Ho f nv s (u.take k) o++if Tk (Qf f nv) (kY f) (Pw s) (Fl f) o u[k]=true then [] else [u[k]]:=by
  unfold Ho clF
  rw [Eh h,List.filter_append]
  congr 1
  by_cases h2:Tk (Qf f nv) (kY f) (Pw s) (Fl f) o u[k]=true
  · rw [if_pos h2];simp [h2]
  · rw [if_neg h2];simp [h2]
theorem Br.pre {G:Ghost} {b:Nat} {cs:List Value} (n:Nat) (h:Br G b cs):Br G b (cs.take n):=fun i v hv=>h i v (by
  rw [List.getElem?_take] at hv;split at hv
  · exact hv
  · cases hv)
theorem gD {G:Ghost} {Ap An Ae Ar:Option Addr} {cp cn ce cr:Nat} {f:Bw} {Au:Option Addr} {cu:Nat} {nv:List Int} {As Ao:Option Addr} {cs co:Nat} {s:List (List Bool)} {o:List Nat} {u:List Int} (hf:Hb G Ap An Ae Ar cp cn ce cr f) (hu:Bt G (.slice Au nv.length cu) nv) (hsf:gJ G (.slice As s.length cs) s) (hoN:Cr G (.slice Ao o.length co) o) (hk:eB f nv) (hT:Tab G) (hU:Ik f u) (ho:∀ i∈o,i<f.nodes.length) (hol:o.length≤1000) (hso:SOk f s) :
  Ai prog 31 [.agg #[.slice Ap f.progs.length cp,.slice An f.nodes.length cn,.slice Ae f.edges.length ce,.slice Ar f.routes.length cr,.slice Au nv.length cu],.slice As s.length cs,.slice Ao o.length co] G [] fun r G' H'=>H'=[]∧Bt G' r (Ho f nv s u o):=by
 refine Ai.of_TM [(0,_),(1,_),(2,_)] func31 rfl ntmps31 sM rfl fun w0 hs=>?_
 have hf0:=hf
 have hu0:=hu
 have hsf0:=hsf
 have hoN0:=hoN
 have hT0:=hT
 refine Wt 2 [] hs rfl<|O_s (Sb hs rfl fun b3 _ hs=>O_s (Sb hs rfl fun b4 _ hs=>Wp 6 [0,0,1] hs rfl<|O_s (Sc (fK hf hk.g.z hk.g.o hT hk.c hk.r) hs rfl fun v1 G' H' _ hR hG16 hs=>?_)))
 obtain ⟨rfl,vu,u',rfl,hU',huI,hul⟩:=hR
 replace hs:=hs.n rfl
 replace hf:=hf.mono hG16
 replace hu:=hu.mono hG16
 replace hsf:=hsf.mono hG16
 replace hoN:=hoN.mono hG16
 replace hT:=hT.mono hG16
 obtain rfl:=Uv hU hU'
 obtain ⟨Ae2,ce2,rfl,_⟩:=id huI
 refine Wp 6 [0] hs rfl ?_
 have hs:=hs.f1
 obtain ⟨_,hGbhQu,hQu,hs⟩:=hs.fixBlk (fun k _=>Ht k)
 replace hf:=hf.mono hGbhQu
 replace hu:=hu.mono hGbhQu
 replace hsf:=hsf.mono hGbhQu
 replace hoN:=hoN.mono hGbhQu
 replace hT:=hT.mono hGbhQu
 replace huI:=huI.mono hGbhQu
 replace hQu:Br _ b3 _:=hQu
 obtain ⟨_,hGbhQs,hQs,hs⟩:=hs.fixBlk (fun k _=>Ht k)
 replace hf:=hf.mono hGbhQs
 replace hu:=hu.mono hGbhQs
 replace hsf:=hsf.mono hGbhQs
 replace hoN:=hoN.mono hGbhQs
 replace hT:=hT.mono hGbhQs
 replace huI:=huI.mono hGbhQs
 replace hQu:=hQu.mono hGbhQs
 replace hQs:Br _ b4 _:=hQs
 refine Wu 2 [] hs rfl<|O_s (Sa hs zeroValue33 rfl fun b9 _ hs=>Wp 8 [0,0] hs rfl ?_)
 have hs:=hs.nilRow 3 1
 have hs:=hs.f1.f1
 replace hs:St _ _ (_::_::Cc []) _:=hs
 obtain ⟨Gp0,hGp⟩:=hs.name
 subst hGp
 have huI_0:=huI
 have hQu_0:=hQu
 have hQs_0:=hQs
 refine Zl [2,3,4,9,19,20,21] (fun m E w=>∃ (k:Nat) (Ds:List Nat) (v9:Value) (G2:Ghost),k≤u.length∧Wf Gp0 G2∧m=u.length-k∧E=⟨Yz Ds,[(2,.slice Ao o.length co),(3,Vp b3),(4,Vp b4),(9,Vp b9),(19,.slice Ae2 u.length ce2),(20,Vi ((u.length:Nat):Int)),(21,Vi (k:Int))]⟩∧St ⟨w0,G,Bl []⟩ G2 (.row 3 1 v9 (Ho f nv s (u.take k) o).length ((Ho f nv s (u.take k) o).map (.int .i64))::.blk b9 33 [v9]::Cc Ds) w) rfl (⟨0,[],_,_,by omega,Wf.refl _,rfl,rfl,hs⟩) fun m E w hI=>?_
 obtain ⟨k,Ds,v9,G2,hkl,hlg0,rfl,rfl,hs⟩:=hI
 have huI:=huI_0.mono hlg0
 have hQu:=hQu_0.mono hlg0
 have hQs:=hQs_0.mono hlg0
 have hf:=hf0.mono hs.le
 have hu:=hu0.mono hs.le
 have hsf:=hsf0.mono hs.le
 have hoN:=hoN0.mono hs.le
 have hT:=hT0.mono hs.le
 refine Wt 2 [] hs rfl<|Zy hs (Yc rfl (fun h22=>?_) fun h22=>?_)
 ·
  refine Wp 8 [0] hs rfl<|Zy hs (Dl huI k underlying33 sizeOf3 rfl rfl rfl oM fun p23 hp23 =>Zy hs (Yg rfl (hp23)<|O_s (Sa hs zeroValue3 rfl fun b11 _ hs=>O_n (Sd hs rfl rfl fun _ hs=>Wp 3 [0] hs rfl<|Zy hs (Cu (vs:=[.slice Ap f.progs.length cp,.slice An f.nodes.length cn,.slice Ae f.edges.length ce,.slice Ar f.routes.length cr,.slice Au nv.length cu]) isAgg45 sizeOf45 rfl hQu.whole rfl<|Wp 1 [] hs rfl<|O_s (Et (H1:=[]) (H:=_::_::_::Cc Ds) hs rfl func41 rfl kR (qE) fun v2 G' H' _ hR hG27 hs=>?_))))))
  obtain ⟨rfl,bu,bo,rfl,hQ1,hQ2⟩:=hR
  replace hs:St _ _ (_::_::_::Cc Ds) _:=hs
  replace hf:=hf.mono hG27
  replace hu:=hu.mono hG27
  replace hsf:=hsf.mono hG27
  replace hoN:=hoN.mono hG27
  replace hQu:=hQu.mono hG27
  replace hQs:=hQs.mono hG27
  replace hlg0:=hlg0.mono hG27
  refine Wp 1 [0] hs rfl ?_
  have hs:=hs.front 2 rfl (H':=(_::_::_::Cc Ds)) rfl
  have hs:=hs.front 2 rfl (H':=(_::_::_::Cc Ds)) rfl
  have hV:=bJ (o:=o) hf hu hk.g.z hk.c hk.n hk.v hQ1 hQ2 hoN hol ho
  refine Wu 1 [] hs rfl<|oG (fun n G' H'=>H'=[.row 3 1 v9 (Ho f nv s (u.take k) o).length ((Ho f nv s (u.take k) o).map (.int .i64)),.blk b9 33 [v9],.blk b11 3 [Vi (u[k]'oM)]]∧∀ (j:Nat) x,j<n→(Rd f nv o)[j]?=some x→okE (kY f) (Pw s) x (u[k]'oM)=true) (fun cd G' H'=>cd=.exit 2∧(∃ x∈Rd f nv o,okE (kY f) (Pw s) x (u[k]'oM)=false)∧∃ v',H'=[.row 3 1 v' (Ho f nv s (u.take k) o++[(u[k]'oM)]).length ((Ho f nv s (u.take k) o++[(u[k]'oM)]).map (.int .i64)),.blk b9 33 [v'],.blk b11 3 [Vi (u[k]'oM)]]) hV (show St _ _ ([_,_,_]++Cc Ds) _ from hs) rfl func64 rfl kR ⟨rfl,fun j x h=>absurd h (Nat.not_lt_zero j)⟩ (fun _ _ _ _ _ h2=>h2) (fun _ _ _ _ _ h2=>h2) ?round ?done ?early
  case round =>
   rintro lq D rec n x v G' H2 hp ha hbd hst hpe hAg hx hv hle ⟨rfl,hJ⟩
   obtain ⟨state,pending,fn',tmps,params,assign,body,defers⟩:=rec
   dsimp only at hp ha hbd hst hpe hAg
   subst hst hpe
   obtain ⟨ux,rfl,hxI⟩:=hv
   subst hp ha hbd
   replace hf:=hf.mono hle
   replace hsf:=hsf.mono hle
   replace hQu:=hQu.mono hle
   replace hQs:=hQs.mono hle
   refine Dm.of_TX hAg rfl rfl sM rfl fun w1 hs =>Wt 2 [] hs rfl<|Cl ⟨hs,fun w2 hs=>?_⟩
   have hcz:(Ho f nv s (u.take k) o).length≤12:=by have h1:=(nC (nv:=Qf f nv) (ed:=kY f) (S:=Pw s) (U:=u.take k) (r0:=Fl f) o).length_le;rw [List.length_take] at h1;unfold Ho;omega
   obtain ⟨i,a,b,hiE,hie,hab,haN,hbN,hed⟩:=ed_at hk hU (List.getElem_mem (show k<u.length by omega))
   have hxm:=List.mem_of_getElem? hx
   obtain ⟨hxl,hxr⟩:=st_in hk hxm
   obtain ⟨y1,hy1⟩:∃ z,z=x[a]'oM:=⟨_,rfl⟩
   obtain ⟨y2,hy2⟩:∃ z,z=x[b]'oM:=⟨_,rfl⟩
   have hr1:=hxr y1 (by rw [hy1];exact List.getElem_mem _)
   have hr2:=hxr y2 (by rw [hy2];exact List.getElem_mem _)
   have hcell:=saf_at hso hr1 hr2
   have hoke:okE (kY f) (Pw s) x (u[k]'oM)=Pw s y1 y2:=by unfold okE;rw [hed];dsimp only;rw [Ms oM,Ms oM,← hy1,← hy2]
   refine Wt 2 [] hs rfl<|Bc [0,1,2,3,4,5,6,7,8,9,10,11,12,13,14,15,16,17,18,19,20,21,22,23,24,25] hs kR ?_
   replace hs:=hs.drew
   refine Xt 0 hs rfl (Yg rfl (hQs 0 (.slice As s.length cs) rfl)<|Xr [1,2,3] [0,2] hs rfl<|Xt 4 hs rfl (Yg rfl (hQu 2 (.slice Ae f.edges.length ce) rfl)<|Xr [5] [4] hs rfl<|Xt 6 hs rfl (Bv hf.e i underlying40 sizeOf70 rfl rfl hie hiE fun p35 c35 hp35 hc35 hR35=>?_)))
   replace hR35:c35=[Vi f.edges[i].1,Vi f.edges[i].2]:=hR35
   subst hR35
   refine Xt 7 hs rfl (Jx 0 underlying70 sizeOf3 rfl rfl rfl dC<|Xt 8 hs rfl (Yg rfl (hp35 0 (Vi (a:Int)) (by rw [hab];rfl))<|Xt 9 hs rfl (Dl hxI a underlying33 sizeOf3 rfl rfl rfl oM fun p38 hp38=>?_)))
   rw [← hy1] at hp38
   refine Xt 10 hs rfl (Yg rfl (hp38)<|Xt 11 hs rfl (Bv hsf y1.toNat underlying47 sizeOf64 rfl rfl oM (by have:=hso.n;omega) fun p40 c40 hp40 hc40 hR40=>?_))
   obtain ⟨ur,rfl,hBr⟩:=hR40
   obtain ⟨Ar,cr,rfl,_⟩:=id hBr
   refine Xt 12 hs rfl (Yg rfl (hp40 0 _ rfl)<|Xr [13,14,15] [0,2] hs rfl<|Xt 16 hs rfl (Yg rfl (hQu 2 (.slice Ae f.edges.length ce) rfl)<|Xr [17] [4] hs rfl<|Xt 18 hs rfl (Bv hf.e i underlying40 sizeOf70 rfl rfl hie hiE fun p47 c47 hp47 hc47 hR47=>?_)))
   replace hR47:c47=[Vi f.edges[i].1,Vi f.edges[i].2]:=hR47
   subst hR47
   refine Xt 19 hs rfl (Jx 1 underlying70 sizeOf3 rfl rfl rfl dC<|Xt 20 hs rfl (Yg rfl (hp47 1 (Vi (b:Int)) (by rw [hab];rfl))<|Xt 21 hs rfl (Dl hxI b underlying33 sizeOf3 rfl rfl rfl oM fun p50 hp50=>?_)))
   rw [← hy2] at hp50
   refine Xt 22 hs rfl (Yg rfl (hp50)<|Xt 23 hs rfl (Jc y2.toNat underlying64 sizeOf4 hBr rfl rfl oM hcell fun p52 hp52 =>Xt 24 hs rfl (Yg rfl (hp52)<|Xr [25] [] hs rfl<|Xe (Zk [2,3,4,9,11,12,19,20,21,28,54] rfl<|Fv rfl (fun hif=>?_) (fun hif=>?_)))))
   ·
    refine Wu 4 [3,4] hs rfl<|O_s (Ca hs underlying33 sizeOf3 zeroValue3 rfl rfl dC dC rfl (cs:=[_]) rfl rfl fun v3 _ hs _=>?_)
    obtain ⟨_,hG57,hl57,hs⟩:=hs.fixRow (eM hs (Hp.cm 0 rfl (fun _ h=>h) (Hp.cm 1 rfl (fun _ h=>h) (Hp.cm 2 rfl (fun _ h=>h) (Hp.cm 3 rfl (fun _ h=>h) (Hp.cm 4 rfl (fun _ h=>h) (Hp.nil _)))))))
    refine O_s (Bf hs.f2 underlying33 Lb rfl dC rfl rfl (hl57) (Fj rfl) oM Nj fun v4 _ hs =>O_n (Sd hs.f3 rfl (hs.f3.rowOne 1 rfl) fun _ hs=>Wp 2 [0] hs rfl ?_))
    have hs:=hs.f4.f1.f2.f4.f4
    exact ⟨_,_,hs,.inr ⟨rfl,_,_,rfl,rfl,⟨x,hxm,hoke.trans (by simpa using hif)⟩,_,by simp;rfl⟩⟩
   refine Wz ?_
   have hs:=hs.f4.f4.f4.f4.f4
   refine ⟨_,_,hs,.inl ⟨rfl,_,rfl,⟨rfl,fun j z hj hz=>?_⟩,Hp.refl _⟩⟩
   rcases Nat.lt_or_ge j n with h | h
   · exact hJ j z h hz
   obtain rfl:j=n:=by omega
   obtain rfl:x=z:=by rw [hx] at hz;injection hz
   exact hoke.trans (by simpa using hif)
  case done =>
   rintro lq D o' G' H2 w' ⟨rfl,hJ⟩ hC hle hs
   replace hs:=hs.mark
   replace hlg0:=hlg0.mono hle
   have hse:Tk (Qf f nv) (kY f) (Pw s) (Fl f) o (u[k]'oM)=true:=List.all_eq_true.2 fun x hx=>by obtain ⟨j,hj,rfl⟩:=List.getElem_of_mem hx;exact hJ j _ hj (List.getElem?_eq_getElem hj)
   replace hs:St _ _ (_::_::_::Cc (D::Ds)) _:=hs
   refine Zr<|Zy hs (Ya (s:=((k+1:Nat):Int)) rfl<|Wo 1 [] hs rfl ?_)
   have hs:=hs.front 2 rfl (H':=(_::_::_::Cc (D::Ds))) rfl
   have hs:=hs.front 2 rfl (H':=(_::_::_::Cc (D::Ds))) rfl
   have hs:=hs.front 2 rfl (H':=(_::_::_::Cc (D::Ds))) rfl
   refine Zx [2,3,4,9,19,20,21] rfl ⟨k+1,D::Ds,v9,_,by omega,hlg0,rfl,rfl,Bz (hs.weak hs.le (gLr _) (.cons_cons _ (.cons_cons _ (.cons _ (.refl _))))) (by rw [qI oM,if_pos hse];try simp)⟩
  case early =>
   rintro lq D o' cd G' H2 w' ⟨rfl,⟨x,hxm,hxo⟩,v',rfl⟩ hle hs
   replace hs:=hs.mark
   replace hlg0:=hlg0.mono hle
   have hse:Tk (Qf f nv) (kY f) (Pw s) (Fl f) o (u[k]'oM)=false:=by cases hq:Tk (Qf f nv) (kY f) (Pw s) (Fl f) o (u[k]'oM) with | false=>rfl | true=>(have:=List.all_eq_true.1 hq x hxm;rw [hxo] at this;cases this)
   replace hs:St _ _ (_::_::_::Cc (D::Ds)) _:=hs
   refine uB ?_
   refine Zr<|Zy hs (Ya (s:=((k+1:Nat):Int)) rfl<|Wo 1 [] hs rfl ?_)
   have hs:=hs.front 2 rfl (H':=(_::_::_::Cc (D::Ds))) rfl
   have hs:=hs.front 2 rfl (H':=(_::_::_::Cc (D::Ds))) rfl
   have hs:=hs.front 2 rfl (H':=(_::_::_::Cc (D::Ds))) rfl
   refine Zx [2,3,4,9,19,20,21] rfl ⟨k+1,D::Ds,v',_,by omega,hlg0,rfl,rfl,Bz (hs.weak hs.le (gLr _) (.cons_cons _ (.cons_cons _ (.cons _ (.refl _))))) (by rw [qI oM,if_neg (by rw [hse];simp)];try simp)⟩
 refine Wp 4 [0] hs rfl<|Wu 5 [1,0] hs rfl<|Ah ?_
 obtain rfl:k=u.length:=by omega
 rw [List.take_length] at hs
 obtain ⟨_,hG_hfr,hfr,hs⟩:=hs.fixRow noM
 have hs:=hs.drop
 have hs:=app0 hs
 refine Hf hs (vs:=[_]) results31 rfl (fun _ hs=>⟨⟨rfl,trivial⟩,?_⟩)
 try dsimp only [tup]
 exact ⟨_,[],hs.done,rfl,hfr⟩
theorem Wx {G:Ghost} {Ap An Ae Ar:Option Addr} {cp cn ce cr:Nat} {f:Bw} {Au:Option Addr} {cu:Nat} {nv:List Int} (hf:Hb G Ap An Ae Ar cp cn ce cr f) (hu:Bt G (.slice Au nv.length cu) nv) (hk:eB f nv) (hT:Tab G) :
  Ai prog 39 [.agg #[.slice Ap f.progs.length cp,.slice An f.nodes.length cn,.slice Ae f.edges.length ce,.slice Ar f.routes.length cr,.slice Au nv.length cu]] G [] fun r _ H'=>H'=[]∧r=Vi 0:=by
 have hnz:=hk.g.z.n
 have hnn:=hk.n
 refine Ai.of_T [(0,_)] func39 rfl ntmps39 sM rfl fun w0 hs=>?_
 have hf0:=hf
 have hu0:=hu
 have hT0:=hT
 refine Wt 2 [] hs rfl<|O_s (Sb hs rfl fun b1 _ hs=>Wp 7 [0,0,0] hs rfl<|O_s (Sc (pS hf hk.g.z hk.g.o hT) hs rfl fun v1 G' H' _ hR hG8 hs=>?_))
 obtain ⟨rfl,rfl⟩:=hR
 replace hs:=hs.n rfl
 replace hf:=hf.mono hG8
 replace hu:=hu.mono hG8
 replace hT:=hT.mono hG8
 rw [hk.c]
 refine Wp 19 [0,0,4,0,0,1,0] hs rfl<|Zy hs (Di rfl rfl rfl oM<|Wp 12 [0,0,1,0,4,1,22,23,24] hs rfl<|Zl [1,22,23,24] (fun m E w=>∃ (k:Nat) (G2:Ghost),k≤f.nodes.length∧m=f.nodes.length-k∧E=⟨[],[(1,Vp b1),(22,.slice An f.nodes.length cn),(23,Vi ((f.nodes.length:Nat):Int)),(24,Vi (k:Int))]⟩∧St ⟨w0,G,Bl []⟩ G2 [.blk b1 45 [.slice Ap f.progs.length cp,.slice An f.nodes.length cn,.slice Ae f.edges.length ce,.slice Ar f.routes.length cr,.slice Au nv.length cu]] w) rfl (⟨0,_,by omega,rfl,rfl,hs⟩) fun m E w hI=>?_)
 obtain ⟨k,G2,hkl,rfl,rfl,hs⟩:=hI
 have hf:=hf0.mono hs.le
 have hu:=hu0.mono hs.le
 have hT:=hT0.mono hs.le
 refine Wt 2 [] hs rfl<|Zy hs (Yc rfl (fun h25=>?_) fun h25=>?_)
 ·
  refine Wp 4 [0] hs rfl ?_
  have hvk:=hk.v k oM
  rw [Ms oM] at hvk
  refine Wu 5 [] hs rfl<|Zy hs (Bv hf.n (k) underlying39 sizeOf76 rfl rfl rfl oM fun p27 c27 hp27 hc27 hR27=>?_)
  obtain ⟨u27,rfl,hv27⟩:=hR27
  obtain ⟨Av27,cv27,rfl,_⟩:=id hv27
  refine Zy hs (Cu (vs:=[.slice Av27 f.nodes[k].vers.length cv27,Vi f.nodes[k].runs,Vi f.nodes[k].claims,.bool f.nodes[k].up]) isAgg76 sizeOf76 rfl hp27 rfl<|O_s (Sa hs zeroValue76 rfl fun b5 _ hs=>Wp 1 [] hs rfl<|O_n (Sg hs rfl (rfl) fun _ hs=>Wp 2 [0] hs rfl<|Bc [0,1,2,3,4,5,6,7,8,9,10,11,12,13,14,15,16] hs kR ?_)))
  replace hs:=hs.drew
  refine Xr [0,1,2] [4,1] hs rfl<|Xt 3 hs rfl (Dl hu k underlying33 sizeOf3 rfl rfl rfl oM fun p32 hp32 =>Xt 4 hs rfl (Yg rfl (hp32)<|Xt 5 hs rfl (Di rfl rfl rfl oM<|Xr [6,7,8,9] [4,1] hs rfl<|Xt 10 hs rfl (Dl hu k underlying33 sizeOf3 rfl rfl rfl oM fun p39 hp39 =>Xt 11 hs rfl (Yg rfl (hp39)<|Xr [12,13,14] [0,0] hs rfl<|Xt 15 hs rfl (Di rfl rfl rfl oM<|Xr [16] [] hs rfl<|Xe (Zk [1,22,23,24,45] rfl<|Wu 3 [] hs rfl<|Zy hs (Ya (s:=((k+1:Nat):Int)) rfl<|Wp 1 [] hs rfl ?_))))))))
  have hs:=hs.f1
  refine Zx [1,22,23,24] rfl ⟨k+1,_,by omega,rfl,rfl,hs.weak hs.le (gLr _) (lSa [_] _)⟩
 refine Wp 4 [0] hs rfl<|Wu 4 [0] hs rfl<|O_s (Sc (gC hf hu hk.g.z hk.n) hs rfl fun v2 G' H' _ hR hG48 hs=>?_)
 obtain ⟨rfl,h48⟩:=hR
 obtain ⟨A48,c48,rfl,_⟩:=id h48
 replace hs:=hs.n rfl
 refine Wp 1 [] hs rfl<|Zy hs (Di rfl rfl rfl (by have:=hk.u;omega)<|Wp 7 [0,0] hs rfl<|Ah<|Zz results39 rfl ?_)
 exact ⟨_,[],hs.done,rfl,rfl⟩
theorem zU {G:Ghost} {Ap An Ae Ar:Option Addr} {cp cn ce cr:Nat} {f:Bw} {Au:Option Addr} {cu:Nat} {nv:List Int} (hf:Hb G Ap An Ae Ar cp cn ce cr f) (hu:Bt G (.slice Au nv.length cu) nv) (hfo:FOk f) (hT:Tab G) (hC:¬ Dh f=0) :
  Ai prog 39 [.agg #[.slice Ap f.progs.length cp,.slice An f.nodes.length cn,.slice Ae f.edges.length ce,.slice Ar f.routes.length cr,.slice Au nv.length cu]] G [] fun r _ H'=>H'=[]∧r=Vi (Dh f):=by
 refine Ai.of_T [(0,_)] func39 rfl ntmps39 sM rfl fun w0 hs=>?_
 have hf0:=hf
 have hu0:=hu
 have hT0:=hT
 refine Wt 2 [] hs rfl<|O_s (Sb hs rfl fun b1 _ hs=>Wp 7 [0,0,0] hs rfl<|O_s (Sc (pS hf hfo.z hfo.o hT) hs rfl fun v1 G' H' _ hR hG8 hs=>?_))
 obtain ⟨rfl,rfl⟩:=hR
 replace hs:=hs.n rfl
 refine Wp 5 [0] hs rfl<|Zy hs (Im rfl rfl rfl (hC)<|Wp 7 [0,0] hs rfl<|Ah<|Zz results39 rfl ?_)
 exact ⟨_,[],hs.done,rfl,rfl⟩
theorem pva1_ok {G:Ghost} {v:Value} {r:List Bool} {b n:Nat} (hr:Hq G v r) (hQ:Br G b [Vi (n:Int)]) (hn:r.length=n) :
  Ai prog 51 [v,Vp b] G [] fun r _ H'=>H'=[]∧r=Vf:=by
 obtain ⟨Ar,cr,rfl,_⟩:=id hr
 refine Ai.of_T [(0,_),(1,_)] func51 rfl ntmps51 sM rfl fun w0 hs=>?_
 have hr0:=hr
 have hQ0:=hQ
 refine Wt 8 [0] hs rfl<|Zy hs (Yg rfl (hQ 0 (Vi (n:Int)) rfl)<|Zy hs (Di rfl rfl rfl oM<|Wp 2 [0] hs rfl<|Ah<|Zz results51 rfl ?_))
 exact ⟨_,[],hs.done,rfl,rfl⟩
theorem idxs_ok {G:Ghost} {As:Option Addr} {cs b n:Nat} {s:List (List Bool)} (hsf:gJ G (.slice As s.length cs) s) (hQ:Br G b [Vi (n:Int)]) (hsr:∀ r∈s,r.length=n) (hsl:s.length≤1000) :
  Ai prog 71 [.slice As s.length cs,.func (.func 51) #[] #[Vp b]] G [] fun r _ H'=>H'=[]∧r=Vi (-1):=by
 refine Ai.of_T [(0,_),(1,_)] func71 rfl ntmps71 sM rfl fun w0 hs=>?_
 have hsf0:=hsf
 have hQ0:=hQ
 refine Wt 11 [0,0] hs rfl<|Zl [0,1,7,8] (fun m E w=>∃ (k:Nat) (G2:Ghost),k≤s.length∧m=s.length-k∧E=⟨[],[(0,.slice As s.length cs),(1,.func (.func 51) #[] #[Vp b]),(7,Vi ((s.length:Nat):Int)),(8,Vi (k:Int))]⟩∧St ⟨w0,G,Bl []⟩ G2 [] w) rfl (⟨0,_,by omega,rfl,rfl,hs⟩) fun m E w hI=>?_
 obtain ⟨k,G2,hkl,rfl,rfl,hs⟩:=hI
 have hsf:=hsf0.mono hs.le
 have hQ:=hQ0.mono hs.le
 refine Wt 2 [] hs rfl<|Zy hs (Yc rfl (fun h9=>?_) fun h9=>?_)
 ·
  refine Wp 16 [0,0] hs rfl<|Zy hs (Bv hsf k underlying47 sizeOf64 rfl rfl rfl oM fun p14 c14 hp14 hc14 hR14=>?_)
  obtain ⟨ur,rfl,hBr⟩:=hR14
  obtain ⟨Ar,cr,rfl,_⟩:=id hBr
  refine Zy hs (Yg rfl (hp14 0 _ rfl)<|O_s (Cb (args:=[_]) (lb:=[_]) (H1:=[]) hs rfl rfl func51 rfl kR (pva1_ok hBr hQ (hsr _ (List.getElem_mem _))) fun v1 G' H' _ hR hG16 hs=>?_))
  obtain ⟨rfl,rfl⟩:=hR
  replace hs:=hs.n rfl
  refine Wp 4 [0] hs rfl<|Zy hs (Ya (s:=((k+1:Nat):Int)) rfl<|Wp 1 [] hs rfl<|Zx [0,1,7,8] rfl ⟨k+1,_,by omega,rfl,rfl,hs⟩)
 refine Wp 4 [0] hs rfl<|Wu 4 [0] hs rfl<|Ah<|Zz results71 rfl ?_
 exact ⟨_,[],hs.done,rfl,rfl⟩
theorem cfns_ok {G:Ghost} {As:Option Addr} {cs b n:Nat} {s:List (List Bool)} (hsf:gJ G (.slice As s.length cs) s) (hQ:Br G b [Vi (n:Int)]) (hsr:∀ r∈s,r.length=n) (hsl:s.length≤1000) :
  Ai prog 50 [.slice As s.length cs,.func (.func 51) #[] #[Vp b]] G [] fun r _ H'=>H'=[]∧r=Vf:=by
 refine Ai.of_T [(0,_),(1,_)] func50 rfl ntmps50 sM rfl fun w0 hs=>?_
 have hsf0:=hsf
 have hQ0:=hQ
 refine Wt 8 [0] hs rfl<|O_s (Sc (idxs_ok hsf hQ hsr hsl) hs rfl fun v1 G' H' _ hR hG7 hs=>?_)
 obtain ⟨rfl,rfl⟩:=hR
 replace hs:=hs.n rfl
 refine Wp 3 [0] hs rfl<|Ah<|Zz results50 rfl ?_
 exact ⟨_,[],hs.done,rfl,rfl⟩
theorem zV {G:Ghost} {Ap An Ae Ar:Option Addr} {cp cn ce cr:Nat} {f:Bw} {Au:Option Addr} {cu:Nat} {nv:List Int} {As:Option Addr} {cs:Nat} {s:List (List Bool)} (hf:Hb G Ap An Ae Ar cp cn ce cr f) (hu:Bt G (.slice Au nv.length cu) nv) (hsf:gJ G (.slice As s.length cs) s) (hk:eB f nv) (hT:Tab G) (hso:SOk f s) :
  Ai prog 21 [.agg #[.slice Ap f.progs.length cp,.slice An f.nodes.length cn,.slice Ae f.edges.length ce,.slice Ar f.routes.length cr,.slice Au nv.length cu],.slice As s.length cs] G [] fun r _ H'=>H'=[]∧r=Vi 0:=by
 have hpl:=hk.g.pl
 have hsn:=hso.n
 refine Ai.of_T [(0,_),(1,_)] func21 rfl ntmps21 sM rfl fun w0 hs=>?_
 have hf0:=hf
 have hu0:=hu
 have hsf0:=hsf
 have hT0:=hT
 refine Wt 2 [] hs rfl<|O_s (Sb hs rfl fun b2 _ hs=>Wp 6 [0,0] hs rfl<|O_s (Sc (Wx hf hu hk hT) hs rfl fun v1 G' H' _ hR hG8 hs=>?_))
 obtain ⟨rfl,rfl⟩:=hR
 replace hs:=hs.n rfl
 replace hsf:=hsf.mono hG8
 refine Wp 15 [0,0,0,0,0] hs rfl<|O_s (Sa hs zeroValue3 rfl fun b6 _ hs=>O_n (Sd hs rfl rfl fun _ hs=>Wp 1 [0] hs rfl ?_))
 obtain ⟨_,hGbhQ6,hQ6,hs⟩:=hs.fixBlk (fun k _=>Ht k)
 replace hsf:=hsf.mono hGbhQ6
 replace hQ6:Br _ b6 _:=hQ6
 refine Wu 5 [] hs rfl<|Zy hs (Yg rfl (hQ6 0 _ rfl)<|Zy hs (Di rfl rfl rfl oM<|Wp 2 [] hs rfl<|Zg hs rfl (Dn (vs:=[_]) rfl<|Ch 20 rfl rfl (Sc (cfns_ok hsf hQ6 hso.r oM) hs rfl fun v2 G' H' _ hR hG23 hs=>?_))))
 obtain ⟨rfl,rfl⟩:=hR
 replace hs:=hs.n rfl
 refine Wp 8 [1,24,0] hs rfl<|Ah<|Zz results21 rfl ?_
 exact ⟨_,[],hs.done,rfl,rfl⟩
theorem plvn_ok {G:Ghost} {Ap An Ae Ar:Option Addr} {cp cn ce cr:Nat} {f:Bw} {Au:Option Addr} {cu:Nat} {nv:List Int} (hf:Hb G Ap An Ae Ar cp cn ce cr f) (hu:Bt G (.slice Au nv.length cu) nv) (hk:eB f nv) (hT:Tab G) :
  Ai prog 21 [.agg #[.slice Ap f.progs.length cp,.slice An f.nodes.length cn,.slice Ae f.edges.length ce,.slice Ar f.routes.length cr,.slice Au nv.length cu],Vn] G [] fun r _ H'=>H'=[]∧r=Vi 1:=by
 obtain ⟨hc0,hc1,hcn,hce,hcr⟩:=On hk.c
 refine Ai.of_T [(0,_),(1,_)] func21 rfl ntmps21 sM rfl fun w0 hs=>?_
 have hf0:=hf
 have hu0:=hu
 have hT0:=hT
 refine Wt 2 [] hs rfl<|O_s (Sb hs rfl fun b2 _ hs=>Wp 6 [0,0] hs rfl<|O_s (Sc (Wx hf hu hk hT) hs rfl fun v1 G' H' _ hR hG8 hs=>?_))
 obtain ⟨rfl,rfl⟩:=hR
 replace hs:=hs.n rfl
 refine Wp 15 [0,0,0,0,0] hs rfl<|O_s (Sa hs zeroValue3 rfl fun b6 _ hs=>O_n (Sd hs rfl rfl fun _ hs=>Wp 7 [0,0] hs rfl<|Zy hs (Im rfl rfl rfl oM<|Wp 11 [1,24,0] hs rfl<|Ah<|Zz results21 rfl ?_)))
 exact ⟨_,[],hs.done,rfl,rfl⟩
theorem plvb_ok {G:Ghost} {Ap An Ae Ar:Option Addr} {cp cn ce cr:Nat} {f:Bw} {Au:Option Addr} {cu:Nat} {nv:List Int} (hf:Hb G Ap An Ae Ar cp cn ce cr f) (hu:Bt G (.slice Au nv.length cu) nv) (hfo:FOk f) (hT:Tab G) (hC:¬ Dh f=0) :
  Ai prog 21 [.agg #[.slice Ap f.progs.length cp,.slice An f.nodes.length cn,.slice Ae f.edges.length ce,.slice Ar f.routes.length cr,.slice Au nv.length cu],Vn] G [] fun r _ H'=>H'=[]∧r=Vi (Dh f):=by
 refine Ai.of_T [(0,_),(1,_)] func21 rfl ntmps21 sM rfl fun w0 hs=>?_
 have hf0:=hf
 have hu0:=hu
 have hT0:=hT
 refine Wt 2 [] hs rfl<|O_s (Sb hs rfl fun b2 _ hs=>Wp 6 [0,0] hs rfl<|O_s (Sc (zU hf hu hfo hT hC) hs rfl fun v1 G' H' _ hR hG8 hs=>?_))
 obtain ⟨rfl,rfl⟩:=hR
 replace hs:=hs.n rfl
 refine Wp 5 [0] hs rfl<|Zy hs (Im rfl rfl rfl (hC)<|Wp 7 [0,0] hs rfl<|Ah<|Zz results21 rfl ?_)
 exact ⟨_,[],hs.done,rfl,rfl⟩
theorem kH:places prog 35=some [(0,1),(1,1)]:=by kernel_rfl
theorem kI (c:List Nat→List Int):∀ (l:List (List Nat)) (b:Option (List Nat×List Int)) (o:List Nat),Wb c b (l++[o])=match Wb c b l with | none=>some (o,c o) | some (p,q)=>if (c o).length<q.length then some (o,c o) else some (p,q)
  | [],b,o=>by cases b<;>rfl
  | x::l,b,o=>kI c l _ o
def BstR (G:Ghost) (vo vc:Value):Option (List Nat×List Int)→Prop
  | none=>vo=.slice none 0 0∧vc=.slice none 0 0
  | some (o,c)=>Cr G vo o∧Bt G vc c
theorem BstR.mono {G G':Ghost} (h:G.le G') {vo vc:Value}:∀ {q:Option (List Nat×List Int)},BstR G vo vc q→BstR G' vo vc q
  | none,hq=>hq
  | some (_,_),hq=>⟨hq.1.mono h,hq.2.mono h⟩
theorem Pn {f:Bw} {nv:List Int}:∀ i∈Ee f nv,i<f.nodes.length:=fun i hi=>List.mem_range.1 (List.mem_filter.1 hi).1
theorem zW {f:Bw} {nv:List Int} {n:Nat} (hn:(Ee f nv).length=n) {o:List Nat} (h:o∈Hh n [] (Ee f nv)):(∀ i∈o,i<f.nodes.length)∧o.length=n:=by
  obtain ⟨q,hq0,hq⟩:=Tl n [] (Ee f nv) o hn h
  obtain rfl:o=q:=hq0
  exact ⟨fun i hi=>Pn i (hq.subset hi),hq.length_eq.trans hn⟩
theorem zX {n:Nat} {p l:List Nat} (hl:l.length=n):¬ Hh n p l=[]:=fun h=>by
  have:=bH n p l l hl (.refl _)
  rw [h] at this;cases this
theorem zY {G:Ghost}:Cr G (Vn) []:=Sl.nil _ _
theorem Tm {G:Ghost} {Ap An Ae Ar:Option Addr} {cp cn ce cr:Nat} {f:Bw} {Au:Option Addr} {cu:Nat} {nv:List Int} {As:Option Addr} {cs:Nat} {s:List (List Bool)} (hf:Hb G Ap An Ae Ar cp cn ce cr f) (hu:Bt G (.slice Au nv.length cu) nv) (hsf:gJ G (.slice As s.length cs) s) {u:List Int} (hk:eB f nv) (hT:Tab G) (hso:SOk f s) (hU:Ik f u) :
  Ai prog 12 [.agg #[.slice Ap f.progs.length cp,.slice An f.nodes.length cn,.slice Ae f.edges.length ce,.slice Ar f.routes.length cr,.slice Au nv.length cu],.slice As s.length cs] G [] fun r G' H'=>H'=[]∧∃ vo vc o,r=.tuple #[.agg #[vo,vc],Vi 0]∧Wb (Ho f nv s u) none (Hh (Ee f nv).length [] (Ee f nv))=some (o,Ho f nv s u o)∧Cr G' vo o∧Bt G' vc (Ho f nv s u o):=by
 refine Ai.of_TM [(0,_),(1,_)] func12 rfl ntmps12 sM rfl fun w0 hs=>?_
 have hf0:=hf
 have hu0:=hu
 have hsf0:=hsf
 have hT0:=hT
 refine Wt 2 [] hs rfl<|O_s (Sb hs rfl fun b2 _ hs=>O_s (Sb hs rfl fun b3 _ hs=>O_s (Sa hs zeroValue35 rfl fun b4 _ hs=>Wp 7 [0,2,1] hs rfl<|O_s (Sc (zV hf hu hsf hk hT hso) hs rfl fun v1 G' H' _ hR hG13 hs=>?_))))
 obtain ⟨rfl,rfl⟩:=hR
 replace hs:=hs.n rfl
 replace hf:=hf.mono hG13
 replace hu:=hu.mono hG13
 replace hsf:=hsf.mono hG13
 replace hT:=hT.mono hG13
 refine Wp 9 [0,0] hs rfl ?_
 have hs:=hs.f2
 obtain ⟨_,hGbhQu,hQu,hs⟩:=hs.fixBlk (fun k _=>Ht k)
 replace hf:=hf.mono hGbhQu
 replace hu:=hu.mono hGbhQu
 replace hsf:=hsf.mono hGbhQu
 replace hT:=hT.mono hGbhQu
 replace hQu:Br _ b2 _:=hQu
 have hs:=hs.f1
 obtain ⟨_,hGbhQs,hQs,hs⟩:=hs.fixBlk (fun k _=>Ht k)
 replace hf:=hf.mono hGbhQs
 replace hu:=hu.mono hGbhQs
 replace hsf:=hsf.mono hGbhQs
 replace hT:=hT.mono hGbhQs
 replace hQu:=hQu.mono hGbhQs
 replace hQs:Br _ b3 _:=hQs
 refine Wu 2 [] hs rfl<|O_s (Sa hs zeroValue35 rfl fun b7 _ hs=>Wp 3 [0] hs rfl<|O_s (Sa hs zeroValue4 rfl fun b8 _ hs=>O_n (Sd hs rfl rfl fun _ hs=>Wp 4 [0] hs rfl<|Zy hs (Cu (vs:=[.slice Ap f.progs.length cp,.slice An f.nodes.length cn,.slice Ae f.edges.length ce,.slice Ar f.routes.length cr,.slice Au nv.length cu]) isAgg45 sizeOf45 rfl hQu.whole rfl<|O_s (Sc (gC hf hu hk.g.z hk.n) hs rfl fun v2 G' H' _ hR hG19 hs=>?_)))))
 obtain ⟨rfl,h19⟩:=hR
 obtain ⟨A19,c19,rfl,_⟩:=id h19
 replace hs:=hs.n rfl
 replace hf:=hf.mono hG19
 replace hu:=hu.mono hG19
 replace hsf:=hsf.mono hG19
 replace hT:=hT.mono hG19
 replace hQu:=hQu.mono hG19
 replace hQs:=hQs.mono hG19
 refine O_s (Sc (qG) hs rfl fun v3 G' H' _ hR hG20 hs=>?_)
 obtain ⟨rfl,br',bp',rfl,hQp,hQr⟩:=hR
 replace hs:=hs.n rfl
 replace hf:=hf.mono hG20
 replace hu:=hu.mono hG20
 replace hsf:=hsf.mono hG20
 replace hT:=hT.mono hG20
 replace hQu:=hQu.mono hG20
 replace hQs:=hQs.mono hG20
 replace h19:=h19.mono hG20
 refine Wp 1 [0] hs rfl ?_
 have hs:=hs.f2.f1.f2
 have hV:=bK _ _ _ _ _ _ _ _ [] (Ee f nv) rfl sM hQp hQr zY h19 (by have:=hk.u;simp;omega)
 obtain ⟨xs,hxs⟩:∃ xs,xs=Hh (Ee f nv).length [] (Ee f nv):=⟨_,rfl⟩
 rw [← hxs] at hV
 refine Wu 1 [] hs rfl<|oG (fun n G' H'=>∃ (q:Option (List Nat×List Int)) (vo vc:Value),H'=[.blk b7 35 [vo,vc],.blk b8 4 [.bool q.isSome],.blk b4 35 [Vn,Vn]]∧q=Wb (Ho f nv s u) none (xs.take n)∧BstR G' vo vc q) (fun _ _ _=>False) hV (show St _ _ ([_,_,_]++[]) _ from hs) rfl func54 rfl kR ⟨none,_,_,rfl,rfl,rfl,rfl⟩ (fun _ _ _ _ h ⟨q,vo,vc,e,e2,h2⟩=>⟨q,vo,vc,e,e2,h2.mono h⟩) (fun _ _ _ _ _ h=>h) ?round ?done ?early
 case round =>
  rintro lq D rec n x v G' H2 hp ha hbd hst hpe hAg hx hv hle ⟨q,vo,vc,rfl,hq,hqR⟩
  obtain ⟨state,pending,fn',tmps,params,assign,body,defers⟩:=rec
  dsimp only at hp ha hbd hst hpe hAg
  subst hst hpe
  obtain ⟨ux,rfl,hxN⟩:=hv
  subst hp ha hbd
  replace hf:=hf.mono hle
  replace hu:=hu.mono hle
  replace hsf:=hsf.mono hle
  replace hT:=hT.mono hle
  replace hQu:=hQu.mono hle
  replace hQs:=hQs.mono hle
  obtain ⟨Ax,cx,rfl,_⟩:=id hxN
  obtain ⟨hxin,hxlen⟩:=zW (f:=f) (nv:=nv) rfl (hxs▸List.mem_of_getElem? hx)
  have hu6:=hk.u
  have hnx:xs.take (n+1)=xs.take n++[x]:=by rw [List.take_add_one,hx];rfl
  have hstep:=kI (Ho f nv s u) (xs.take n) none x
  rw [← hnx,← hq] at hstep
  rcases q with _ | ⟨pq,clq⟩
  ·
   obtain ⟨rfl,rfl⟩:=hqR
   dsimp only [Option.isSome] at hstep ⊢
   refine Dm.of_TX hAg rfl rfl sM rfl fun w1 hs =>Wt 2 [] hs rfl<|Cl ⟨hs,fun w2 hs=>?_⟩
   refine Wt 3 [] hs rfl<|Zy hs (Cu (vs:=[.slice Ap f.progs.length cp,.slice An f.nodes.length cn,.slice Ae f.edges.length ce,.slice Ar f.routes.length cr,.slice Au nv.length cu]) isAgg45 sizeOf45 rfl hQu.whole rfl<|Zy hs (Yg rfl (hQs 0 (.slice As s.length cs) rfl)<|Wp 1 [] hs rfl<|O_s (Sc (gD hf hu hsf hxN hk hT hU hxin oM hso) hs rfl fun v4 G' H' _ hR hG25 hs=>?_)))
   obtain ⟨rfl,h25⟩:=hR
   obtain ⟨A25,c25,rfl,_⟩:=id h25
   replace hs:=hs.n rfl
   replace hxN:=hxN.mono hG25
   refine Wp 18 [4,7,8,9,10,3,0] hs rfl<|O_s (Sc (pT hxN (Sn _) oM) hs rfl fun v5 G' H' _ hR hG37 hs=>?_)
   obtain ⟨rfl,hl37,_⟩:=hR
   obtain ⟨A37,c37,rfl,_⟩:=id hl37
   replace hs:=hs.n rfl
   replace h25:=h25.mono hG37
   refine Wp 1 [] hs rfl ?_
   skip
   refine Zy hs (Ba zeroValue35 rfl kH rfl (cs:=[_,_]) rfl<|O_n (Sg hs.f2 rfl (rfl) fun _ hs=>O_n (Sd hs.f3 rfl rfl fun _ hs=>?_)))
   have hs:=hs.f4.f1.f2.f4.f4
   exact Cl (⟨_,_,hs,.inl ⟨rfl,_,rfl,⟨some (x,Ho f nv s u x),_,_,rfl,hstep.symm,⟨Cr.ofSl hl37 rfl rfl,h25⟩⟩,Hp.cons (fun _ h=>h) (Hp.cons (fun _ h=>h) (Hp.cons (fun _ h=>h) (Hp.refl _)))⟩⟩)
  obtain ⟨hpN,hcI⟩:=hqR
  obtain ⟨Aq,caq,rfl,_⟩:=id hpN
  obtain ⟨Acq,ccq,rfl,_⟩:=id hcI
  dsimp only [Option.isSome] at hstep ⊢
  refine Dm.of_TX hAg rfl rfl sM rfl fun w1 hs =>Wt 2 [] hs rfl<|Cl ⟨hs,fun w2 hs=>?_⟩
  refine Wt 3 [] hs rfl<|Zy hs (Cu (vs:=[.slice Ap f.progs.length cp,.slice An f.nodes.length cn,.slice Ae f.edges.length ce,.slice Ar f.routes.length cr,.slice Au nv.length cu]) isAgg45 sizeOf45 rfl hQu.whole rfl<|Zy hs (Yg rfl (hQs 0 (.slice As s.length cs) rfl)<|Wp 1 [] hs rfl<|O_s (Sc (gD hf hu hsf hxN hk hT hU hxin oM hso) hs rfl fun v6 G' H' _ hR hG25 hs=>?_)))
  obtain ⟨rfl,h25⟩:=hR
  obtain ⟨A25,c25,rfl,_⟩:=id h25
  replace hs:=hs.n rfl
  replace hxN:=hxN.mono hG25
  replace hpN:=hpN.mono hG25
  replace hcI:=hcI.mono hG25
  refine Wp 12 [4,7,8,9,10,3,1,2] hs rfl<|Zg hs rfl (Yc rfl (fun h34=>?_) fun h34=>?_)
  ·
   refine Wp 5 [0] hs rfl<|O_s (Sc (pT hxN (Sn _) oM) hs rfl fun v7 G' H' _ hR hG37 hs=>?_)
   obtain ⟨rfl,hl37,_⟩:=hR
   obtain ⟨A37,c37,rfl,_⟩:=id hl37
   replace hs:=hs.n rfl
   replace h25:=h25.mono hG37
   refine Wp 1 [] hs rfl ?_
   skip
   refine Zy hs (Ba zeroValue35 rfl kH rfl (cs:=[_,_]) rfl<|O_n (Sg hs.f2 rfl (rfl) fun _ hs=>O_n (Sd hs.f3 rfl rfl fun _ hs=>?_)))
   have hs:=hs.f4.f1.f2.f4.f4
   exact Cl (⟨_,_,hs,.inl ⟨rfl,_,rfl,⟨some (x,Ho f nv s u x),_,_,rfl,by rw [hstep,if_pos oM],⟨Cr.ofSl hl37 rfl rfl,h25⟩⟩,Hp.cons (fun _ h=>h) (Hp.cons (fun _ h=>h) (Hp.cons (fun _ h=>h) (Hp.refl _)))⟩⟩)
  refine Wp 4 [0] hs rfl ?_
  have hs:=hs.f4.f4.f4.f4.f4
  exact ⟨_,_,hs,.inl ⟨rfl,_,rfl,⟨some (pq,clq),_,_,rfl,by rw [hstep,if_neg oM],⟨hpN,hcI⟩⟩,Hp.cons (fun _ h=>h) (Hp.cons (fun _ h=>h) (Hp.cons (fun _ h=>h) (Hp.refl _)))⟩⟩
 case done =>
  rintro lq D o' G' H2 w' ⟨q,vo,vc,rfl,hq,hqR⟩ hC hle hs
  replace hs:St _ _ (Cc []++_) _:=hs
  replace hs:St _ _ ([_,_,_]++Cc [D]) _:=(show St _ _ (_::_::([_,_,_]++Cc [])) _ from hs).mark
  obtain ⟨o,la,lb,hbs,_⟩:=zP (Ho f nv s u) (hxs▸zX rfl:xs≠[])
  rw [List.take_length,hbs] at hq
  subst hq
  obtain ⟨hoN,hcI⟩:=hqR
  obtain ⟨Ao,co,rfl,_⟩:=id hoN
  obtain ⟨Ac,cc,rfl,_⟩:=id hcI
  replace hs:St _ _ (_::_::_::Cc [D]) _:=hs
  refine Wt 3 [0] hs rfl ?_
  have hs:=hs.front 2 rfl (H':=(_::_::_::Cc [D])) rfl
  refine O_n (Sg hs rfl (rfl) fun _ hs=>Wp 2 [0] hs rfl<|Ah ?_)
  have hs:=hs.front 1 rfl (H':=(_::_::_::Cc [D])) rfl
  have hs:=hs.front 2 rfl (H':=(_::_::_::Cc [D])) rfl
  have hs:=hs.front 2 rfl (H':=(_::_::_::Cc [D])) rfl
  replace hs:=hs.perm (List.perm_append_comm (l₁:=[_,_,_]) (l₂:=Cc [D]))
  refine Hf (Ds:=[D]) hs (vs:=[_,_]) results12 rfl (fun _ hs=>⟨⟨Bk 0 hs isAgg35 sizeOf35 rfl (cs:=[_,_]) rfl rfl,rfl,trivial⟩,?_⟩)
  try dsimp only [tup]
  exact ⟨_,[],hs.done,rfl,_,_,o,rfl,by rw [← hxs];exact hbs,hoN,hcI⟩
 case early =>
  intro _ _ _ _ _ _ _ h;exact h.elim
theorem vals_ok {G:Ghost} {Av:Option Addr} {nv cv:Nat} :
  Ai prog 58 [.slice Av nv cv] G [] fun r G' H'=>H'=[]∧∃ b,r=.func (.func 85) #[] #[Vp b]∧Br G' b [.slice Av nv cv]:=by
 refine Ai.of_T [(0,_)] func58 rfl ntmps58 sM rfl fun w0 hs =>Wt 2 [] hs rfl<|O_s (Sb hs rfl fun b1 _ hs=>Wp 4 [0] hs rfl<|Zy hs (Dn (vs:=[_]) rfl<|Wp 2 [0] hs rfl<|Ah ?_))
 obtain ⟨_,hGbhQv,hQv,hs⟩:=hs.fixBlk (fun k _=>Ht k)
 replace hQv:Br _ b1 _:=hQv
 refine Zz results58 rfl ?_
 exact ⟨_,[],hs.done,rfl,_,rfl,hQv⟩
theorem val1_ok {lp b:Nat} {G:Ghost} {Al:Option Addr} {cl:Nat} {l:List Int} {H0:List Res} {J:Nat→Ghost→List Res→Prop} (hb:Br G b [.slice Al l.length cl]) (hl:Bt G (.slice Al l.length cl) l) (hll:l.length≤1000) (hJm:∀ n G1 G2 H,Ghost.le G1 G2→J n G1 H→J n G2 H)
  (hY:∀ n,(h:n<l.length)→∀ G' H',G.le G'→J n G' H'→Dm prog lp [Vi l[n]] G' H' fun r G'' H''=>r=Vt∧J (n+1) G'' H'') (hJ0:J 0 G H0) :
  Ai prog 85 [.func (.yield lp) #[] #[],Vp b] G H0 fun _ G' H'=>J l.length G' H':=by
 refine Ai.of_T [(0,_),(1,_)] func85 rfl ntmps85 sM rfl fun w0 hs=>?_
 have hb0:=hb
 have hl0:=hl
 refine Wt 2 [] hs rfl<|Zy hs (Yg rfl (hb 0 (.slice Al l.length cl) rfl)<|Wp 3 [0] hs rfl<|Zl [0,5,6,7] (fun m E w=>∃ (k:Nat) (G':Ghost) (H':List Res),k≤l.length∧J k G' H'∧m=l.length-k∧E=⟨[],[(0,.func (.yield lp) #[] #[]),(5,.slice Al l.length cl),(6,Vi ((l.length:Nat):Int)),(7,Vi (k:Int))]⟩∧St ⟨w0,G,Bl H0⟩ G' H' w) rfl (⟨0,_,_,by omega,hJ0,rfl,rfl,hs⟩) fun m E w hI=>?_)
 obtain ⟨k,G',H',hk,hJ,rfl,rfl,hs⟩:=hI
 have hb:=hb0.mono hs.le
 have hl:=hl0.mono hs.le
 refine Wt 2 [] hs rfl<|Zy hs (Yc rfl (fun h8=>?_) fun h8=>?_)
 ·
  refine Wp 8 [0] hs rfl<|Zy hs (Dl hl k underlying33 sizeOf3 rfl rfl rfl oM fun p9 hp9 =>Zy hs (Yg rfl (hp9)<|Wp 6 [0] hs rfl<|O_s (Ln (H1:=H') (H:=[]) Z37 rfl rfl (hY k oM _ _ hs.le hJ) fun v G'' H'' w' hR hG13 hs=>?_)))
  obtain ⟨rfl,hJ⟩:=hR
  rw [List.append_nil] at hs
  refine Wp 5 [0] hs rfl<|Zy hs (Ya (s:=((k+1:Nat):Int)) rfl<|Wp 1 [] hs rfl<|Zx [0,5,6,7] rfl ⟨k+1,_,_,by omega,hJ,rfl,rfl,hs⟩)
 refine Wp 4 [0] hs rfl ?_
 try dsimp only [Ex.At,Ex.sqs,Ex.sq,Ex.lp,Ex.bk]
 try rw [show Nat.beq _ _=true from Nat.beq_refl _,cond_true]
 refine Ez (vs:=[]) results85 rfl trivial ?_
 try dsimp only [tup]
 obtain rfl:k=l.length:=by omega
 exact ⟨_,_,hs,hJ⟩
theorem zZ {b:Nat} {G:Ghost} {Al:Option Addr} {cl:Nat} {l:List Int} (hb:Br G b [.slice Al l.length cl]) (hl:Bt G (.slice Al l.length cl) l) (hll:l.length≤1000) :
  Ai prog 105 [Vn,.func (.func 85) #[] #[Vp b]] G [] fun r _ H'=>H'=[.row 3 1 r l.length (l.map (.int .i64))]:=by
 refine Ai.of_TM [(0,_),(1,_)] func105 rfl ntmps105 sM rfl fun w0 hs =>Wt 2 [] hs rfl<|O_s (Sb hs rfl fun b2 _ hs=>Wp 7 [0,0] hs rfl ?_)
 have hs:=hs.nilRow 3 1
 have hs:=hs.f1.f1
 refine Wu 1 [] hs rfl<|Nu (H1:=[_,_]) (H:=[]) (R:=fun G' H2=>∃ (v:Value),H2=[.row 3 1 v l.length ((l.take l.length).map (.int .i64)),.blk b2 33 [v]]) hs rfl func85 rfl kR ?hit ?done
 case hit =>
  intro lp D rec hp ha hbd hst hpe hAg
  obtain ⟨state,pending,fn',tmps,params,assign,body,defers⟩:=rec
  dsimp only at hp ha hbd hst hpe hAg
  subst hst hpe
  refine Ai.mono (val1_ok (lp:=lp) (J:=fun n G' H'=>∃ (v:Value),H'=[.obj lp (.loop { state:=.ready,pending:=none,fn:=fn',tmps:=tmps,params:=params,assign:=assign,body:=body,defers:=defers }),.obj D (.deferred (some [])),.row 3 1 v n ((l.take n).map (.int .i64)),.blk b2 33 [v]]) hb hl hll (fun _ _ _ _ _ h=>h) ?round ⟨_,rfl⟩) ?fin
  case fin =>
   rintro r G' H' _ ⟨v,rfl⟩
   exact ⟨_,rfl,v,rfl⟩
  rintro n hn G' H' hle ⟨v7,rfl⟩
  subst hp ha hbd
  refine Dm.of_T hAg rfl rfl sM rfl fun w1 hs =>Wt 2 [] hs rfl<|Cl ⟨hs,fun w2 hs=>?_⟩
  refine Wt 4 [3] hs rfl<|O_s (Se hs zeroValue3 rfl fun v1 _ hs _=>?_)
  obtain ⟨_,hG10,hl10,hs⟩:=hs.fixRow (noMh hs ⟨fun _ h=>h,fun _ h=>h,fun _ h=>h,fun _ h=>h,trivial⟩)
  refine O_s (Bf hs.f2 underlying33 Lb rfl dC rfl rfl (hl10) (Fj rfl) oM oM fun v2 _ hs =>O_n (Sd hs.f3 rfl (hs.f3.rowOne 1 rfl) fun _ hs=>?_))
  have hs:=hs.f1.f3.f3
  refine Cl ⟨_,_,hs,rfl,v2,?_⟩
  rw [Eh hn,List.map_append];rfl
 case done =>
  rintro lp D o' G' H2 w' ⟨v7,rfl⟩ hle hs
  refine Wt 5 [3,0] hs rfl<|Ah ?_
  have hs:=hs.f2.f1
  refine Hf (Ds:=[D]) (show St _ _ (Cc [D]++_) _ from hs) (vs:=[_]) results105 rfl (fun _ hs=>⟨⟨rfl,trivial⟩,?_⟩)
  try dsimp only [tup]
  exact ⟨_,_,hs.weak hs.le (gLr _) (lSa [_] _),by rw [List.take_length]⟩
theorem colli_ok {b:Nat} {G:Ghost} {Al:Option Addr} {cl:Nat} {l:List Int} (hb:Br G b [.slice Al l.length cl]) (hl:Bt G (.slice Al l.length cl) l) (hll:l.length≤1000) :
  Ai prog 84 [.func (.func 85) #[] #[Vp b]] G [] fun r _ H'=>H'=[.row 3 1 r l.length (l.map (.int .i64))]:=by
 refine Ai.of_T [(0,_)] func84 rfl ntmps84 sM rfl fun w0 hs=>?_
 have hb0:=hb
 have hl0:=hl
 refine Wt 7 [0] hs rfl<|O_s (Sc (zZ hb hl hll) hs rfl fun v1 G' H' _ hR hG4 hs=>?_)
 obtain rfl:=hR
 replace hs:=hs.n rfl
 refine Wp 2 [0] hs rfl<|Ah<|Zz results84 rfl ?_
 exact ⟨_,_,hs,rfl⟩
theorem srtd_ok {b:Nat} {G:Ghost} {Al:Option Addr} {cl:Nat} {l:List Int} (hb:Br G b [.slice Al l.length cl]) (hl:Bt G (.slice Al l.length cl) l) (hll:l.length≤12) :
  Ai prog 57 [.func (.func 85) #[] #[Vp b]] G [] fun r G' H'=>H'=[]∧∃ l',l'.Perm l∧Srt Wr l'∧Bt G' r l':=by
 refine Ai.of_T [(0,_)] func57 rfl ntmps57 sM rfl fun w0 hs=>?_
 have hb0:=hb
 have hl0:=hl
 refine Wt 7 [0] hs rfl<|O_s (Sc (colli_ok hb hl oM) hs rfl fun v1 G' H' _ hR hG5 hs=>?_)
 obtain rfl:=hR
 replace hs:=hs.n rfl
 refine Wp 5 [0] hs rfl<|O_s (Sc (pR hll) hs rfl fun v2 G' H' _ hR hG7 hs=>?_)
 obtain ⟨l',hpm,hsl,rfl⟩:=hR
 replace hs:=hs.n rfl
 refine Wp 6 [0,0] hs rfl<|Ah ?_
 obtain ⟨_,hG_hfr,hfr,hs⟩:=hs.fixRow noM
 refine Zz results57 rfl ?_
 exact ⟨_,[],hs.done,rfl,l',hpm,hsl,hfr⟩
theorem Ra {α:Type} {a b:List α} (h:a.length=b.length) (he:∀ j (h1:j<a.length) (h2:j<b.length),a[j]=b[j]):a=b:=List.ext_getElem h he
theorem ne_at {α:Type} {a b:List α} {k:Nat} (h1:k<a.length) (h2:k<b.length) (h:¬ a[k]=b[k]):¬ a=b:=fun e=>h (by subst e;rfl)
theorem seql_ok {G:Ghost} {Aa Ab:Option Addr} {ca cb:Nat} {a b:List Int} (ha:Bt G (.slice Aa a.length ca) a) (hb:Bt G (.slice Ab b.length cb) b) (hal:a.length≤1000) :
  Ai prog 56 [.slice Aa a.length ca,.slice Ab b.length cb] G [] fun r _ H'=>H'=[]∧r=.bool (decide (a=b)):=by
 refine Ai.of_T [(0,_),(1,_)] func56 rfl ntmps56 sM rfl fun w0 hs=>?_
 have ha0:=ha
 have hb0:=hb
 refine Wt 11 [0] hs rfl<|Zy hs (Yc rfl (fun h10=>?_) fun h10=>?_)
 ·
  refine Wp 6 [0,0] hs rfl<|Ah<|Zz results56 rfl ?_
  exact ⟨_,[],hs.done,rfl,congrArg Value.bool (decide_eq_false fun e=>h10 (by rw [e])).symm⟩
 refine Wp 10 [0,0] hs rfl<|Zl [0,1,12,13] (fun m E w=>∃ (k:Nat) (G2:Ghost),k≤a.length∧(∀ j (h1:j<a.length) (h2:j<b.length),j<k→a[j]=b[j])∧m=a.length - k∧E=⟨[],[(0,.slice Aa a.length ca),(1,.slice Ab b.length cb),(12,Vi ((a.length:Nat):Int)),(13,Vi (k:Int))]⟩∧St ⟨w0,G,Bl []⟩ G2 [] w) rfl (⟨0,_,by omega,fun _ _ _ h=>absurd h (Nat.not_lt_zero _),rfl,rfl,hs⟩) fun m E w hI=>?_
 obtain ⟨k,G2,hk,hke,rfl,rfl,hs⟩:=hI
 have ha:=ha0.mono hs.le
 have hb:=hb0.mono hs.le
 refine Wt 2 [] hs rfl<|Zy hs (Yc rfl (fun h14=>?_) fun h14=>?_)
 ·
  refine Wp 12 [0,0] hs rfl<|Bc [0,1,2,3,4,5,6,7,8] hs kR ?_
  replace hs:=hs.drew
  refine Xr [0,1] [] hs rfl<|Xt 2 hs rfl (Dl ha k underlying33 sizeOf3 rfl rfl rfl oM fun p18 hp18 =>Xt 3 hs rfl (Yg rfl (hp18)<|Xr [4,5] [] hs rfl<|Xt 6 hs rfl (Dl hb k underlying33 sizeOf3 rfl rfl rfl oM fun p22 hp22 =>Xt 7 hs rfl (Yg rfl (hp22)<|Xt 8 hs rfl (Nr rfl rfl rfl (fun h24=>?_) (fun h24=>?_))))))
  ·
   dsimp only [Il] at h24
   refine Xe (Zk [0,1,12,13,24] rfl<|Wu 5 [0] hs rfl<|Ah<|Zz results56 rfl ?_)
   exact ⟨_,[],hs.done,rfl,congrArg Value.bool (decide_eq_false (ne_at (k:=k) oM oM (fun e=>h24 (by rw [e])))).symm⟩
  dsimp only [Il] at h24
  have hEQ:a[k]'oM=b[k]'oM:=by omega
  refine Xe (Zk [0,1,12,13,24] rfl<|Wu 3 [] hs rfl<|Zy hs (Ya (s:=((k+1:Nat):Int)) rfl<|Wp 1 [] hs rfl<|Zx [0,1,12,13] rfl ⟨k+1,_,by omega,fun j h1 h2 hj=>(Nat.lt_or_ge j k).elim (hke j h1 h2) (fun h=>by obtain rfl:j=k:=oM;exact hEQ),rfl,rfl,hs⟩))
 refine Wp 4 [0] hs rfl<|Wu 4 [0] hs rfl<|Ah<|Zz results56 rfl ?_
 exact ⟨_,[],hs.done,rfl,congrArg Value.bool (decide_eq_true (Ra oM fun j h1 h2=>hke j h1 h2 oM)).symm⟩
theorem seqn_ok {G:Ghost} {Aa Ab:Option Addr} {ca cb:Nat} {a:List Int} {b:List Nat} (ha:Bt G (.slice Aa a.length ca) a) (hb:Cr G (.slice Ab b.length cb) b) (hal:a.length≤1000) :
    Ai prog 56 [.slice Aa a.length ca,.slice Ab b.length cb] G [] fun r _ H'=>H'=[]∧r=.bool (decide (a=b.map fun x:Nat=>(x:Int))):=by
  have h:=Vl hb
  have e:b.length=(b.map fun x:Nat=>(x:Int)).length:=by rw [List.length_map]
  rw [e] at h ⊢
  exact seql_ok ha h hal
def Gu (f:Bw) (nv u:List Int) (o:List Nat) (cl:List Int):Prop:=(∀ e∈cl,e∈u)∧cl.Pairwise (·<·)∧o.Perm (Ee f nv)
theorem Ou {f:Bw} {nv:List Int}:(Ee f nv).Pairwise (·<·):=List.Pairwise.filter _ List.pairwise_lt_range
theorem srt_pw {l:List Int} (h:Srt Wr l):l.Pairwise (·≤·):=List.Pairwise.imp (fun {a b} h=>by simp only [Wr,decide_eq_false_iff_not] at h;omega) h
theorem perm_srt {l':List Int} {o u:List Nat} (hp:l'.Perm (o.map fun x:Nat=>(x:Int))) (hs:Srt Wr l') (hu:u.Pairwise (·<·)):l'=(u.map fun x:Nat=>(x:Int))↔o.Perm u:=by
  constructor
  · rintro rfl
    have h:=hp.symm.map Int.toNat
    rw [List.map_map,List.map_map] at h
    have e:(Int.toNat ∘ fun x:Nat=>(x:Int))=id:=by funext x;simp
    rw [e,List.map_id,List.map_id] at h
    exact h
  · intro h
    have h2:l'.Perm (u.map fun x:Nat=>(x:Int)):=hp.trans (h.map _)
    refine List.Perm.eq_of_pairwise (le:=(·≤·)) (fun a b _ _ h1 h2=>by omega) (srt_pw hs) ?_ h2
    exact List.Pairwise.map _ (fun a b h=>by omega) hu
theorem nF {l:List Int} (h:∀ j (h:j<l.length),0<j→j<l.length→l[j-1]'oM<l[j]):l.Pairwise (·<·):=by
  rw [List.pairwise_iff_getElem]
  intro i j hi hj hij
  obtain ⟨d,rfl⟩:∃ d,j=i+1+d:=⟨j-i-1,by omega⟩
  clear hij
  induction d with
  | zero=>exact h (i+1) hj oM hj
  | succ d ih =>
    have h1:=ih oM
    have h2:=h (i+1+(d+1)) hj oM hj
    have h3:l[i+1+(d+1)-1]'oM=l[i+1+d]'oM:=by congr 1
    omega
theorem kJ {f:Bw} {u:List Int} (h:Ik f u) (h2:(fI f).length≤12):u.length≤12:=by
  have hnd:u.Nodup:=h.1.imp fun h=>by omega
  have hsub:∀ x∈u,x∈Wa f:=fun x hx=>(h.2 x).1 hx
  have:=sub_len hnd hsub
  unfold Wa at this
  rw [List.length_map] at this
  omega
theorem gE {G:Ghost} {Ap An Ae Ar:Option Addr} {cp cn ce cr:Nat} {f:Bw} {Au:Option Addr} {cu:Nat} {nv:List Int} (hf:Hb G Ap An Ae Ar cp cn ce cr f) (hu:Bt G (.slice Au nv.length cu) nv) {Ao Ac:Option Addr} {co cc:Nat} {o:List Nat} {cl:List Int} {u:List Int} (hoN:Cr G (.slice Ao o.length co) o) (hcI:Bt G (.slice Ac cl.length cc) cl) (hU:Ik f u) (hol:o.length≤12) (hcl:cl.length≤1000) (hk:eB f nv) (hT:Tab G) :
  Ai prog 35 [.agg #[.slice Ap f.progs.length cp,.slice An f.nodes.length cn,.slice Ae f.edges.length ce,.slice Ar f.routes.length cr,.slice Au nv.length cu],.agg #[.slice Ao o.length co,.slice Ac cl.length cc]] G [] fun r _ H'=>H'=[]∧∃ b,r=.bool b∧(b=true↔Gu f nv u o cl):=by
 refine Ai.of_T [(0,_),(1,_)] func35 rfl ntmps35 sM rfl fun w0 hs=>?_
 have hf0:=hf
 have hu0:=hu
 have hoN0:=hoN
 have hcI0:=hcI
 have hT0:=hT
 refine Wt 2 [] hs rfl<|O_s (Sb hs rfl fun b2 _ hs=>O_s (Sb hs rfl fun b3 _ hs=>Wp 6 [0,0,1] hs rfl<|O_s (Sc (fK hf hk.g.z hk.g.o hT hk.c hk.r) hs rfl fun v1 G' H' _ hR hG12 hs=>?_)))
 obtain ⟨rfl,vu,u',rfl,hU',huI,hul⟩:=hR
 replace hs:=hs.n rfl
 replace hf:=hf.mono hG12
 replace hu:=hu.mono hG12
 replace hoN:=hoN.mono hG12
 replace hcI:=hcI.mono hG12
 replace hT:=hT.mono hG12
 obtain rfl:=Uv hU hU'
 obtain ⟨Ae2,ce2,rfl,_⟩:=id huI
 refine Wp 6 [0] hs rfl ?_
 have hs:=hs.f1
 obtain ⟨_,hGbhQu,hQu,hs⟩:=hs.fixBlk (fun k _=>Ht k)
 replace hf:=hf.mono hGbhQu
 replace hu:=hu.mono hGbhQu
 replace hoN:=hoN.mono hGbhQu
 replace hcI:=hcI.mono hGbhQu
 replace hT:=hT.mono hGbhQu
 replace huI:=huI.mono hGbhQu
 replace hQu:Br _ b2 _:=hQu
 refine Wu 8 [1,0,0] hs rfl ?_
 obtain ⟨Gp0,hGp⟩:=hs.name
 subst hGp
 have huI_0:=huI
 have hQu_0:=hQu
 refine Zl [2,3,5,16,17,18] (fun m E w=>∃ (k:Nat) (G2:Ghost),k≤cl.length∧(∀ j (h:j<cl.length),j<k→cl[j]∈u)∧(∀ j (h:j<cl.length),0<j→j<k→cl[j - 1]'oM<cl[j])∧Wf Gp0 G2∧m=cl.length - k∧E=⟨[],[(2,Vp b2),(3,Vp b3),(5,.slice Ae2 u.length ce2),(16,.slice Ac cl.length cc),(17,Vi ((cl.length:Nat):Int)),(18,Vi (k:Int))]⟩∧St ⟨w0,G,Bl []⟩ G2 [.blk b3 35 [.slice Ao o.length co,.slice Ac cl.length cc]] w) rfl (⟨0,_,by omega,fun _ _ h=>absurd h (Nat.not_lt_zero _),fun _ _ _ h=>absurd h (Nat.not_lt_zero _),Wf.refl _,rfl,rfl,hs⟩) fun m E w hI=>?_
 obtain ⟨k,G2,hkl,hke,hkp,hlg0,rfl,rfl,hs⟩:=hI
 have huI:=huI_0.mono hlg0
 have hQu:=hQu_0.mono hlg0
 have hf:=hf0.mono hs.le
 have hu:=hu0.mono hs.le
 have hoN:=hoN0.mono hs.le
 have hcI:=hcI0.mono hs.le
 have hT:=hT0.mono hs.le
 refine Wt 2 [] hs rfl<|Zy hs (Yc rfl (fun h19=>?_) fun h19=>?_)
 ·
  refine Wp 9 [0] hs rfl<|Zy hs (Dl hcI k underlying33 sizeOf3 rfl rfl rfl oM fun p21 hp21 =>Zy hs (Yg rfl (hp21)<|Wp 7 [0] hs rfl<|O_s (Sc (So huI oM) hs rfl fun v2 G' H' _ hR hG25 hs=>?_)))
  obtain ⟨rfl,rfl⟩:=hR
  replace hs:=hs.n rfl
  replace hcI:=hcI.mono hG25
  replace hlg0:=hlg0.mono hG25
  cases h25:u.contains (cl[k]'oM)
  ·
   refine Wp 5 [] hs rfl<|Ec 30 rfl rfl<|Ec 30 rfl rfl<|Ec 30 rfl rfl<|Ec 30 rfl rfl<|Ec 30 rfl rfl<|Ec 30 rfl rfl<|Ec 30 rfl rfl<|Ec 30 rfl rfl<|Wp 8 [0,0] hs rfl<|Ah<|Zz results35 rfl ?_
   exact ⟨_,[],hs.done,rfl,false,rfl,⟨fun h=>gK,fun h=>absurd (h.1 _ (List.getElem_mem (show k<cl.length by omega))) (by simpa using h25)⟩⟩
  refine Wp 3 [] hs rfl<|Zg hs rfl (Yc rfl (fun h29=>?_) fun h29=>?_)
  ·
   refine Wp 4 [1,0] hs rfl<|Zg hs rfl (Fc (c:=((k-1:Nat):Int)) rfl rfl oM oM<|Zg hs rfl (Dl hcI (k-1) underlying33 sizeOf3 rfl rfl rfl oM fun p35 hp35 =>Zg hs rfl (Yg rfl (hp35)<|Wp 1 [] hs rfl<|Zg hs rfl (Yc rfl (fun h38=>?_) fun h38=>?_))))
   ·
    refine Wp 8 [7,2,3,5,16,17,18,40,0] hs rfl<|Ah<|Zz results35 rfl ?_
    exact ⟨_,[],hs.done,rfl,false,rfl,⟨fun h=>gK,fun h=>by have:=(List.pairwise_iff_getElem.1 h.2.1) (k-1) k oM oM oM;omega⟩⟩
   refine Wp 6 [7,2,3,5,16,17,18,40] hs rfl<|Zy hs (Ya (s:=((k+1:Nat):Int)) rfl<|Wp 1 [] hs rfl<|Zx [2,3,5,16,17,18] rfl ⟨k+1,_,by omega,fun j h hj=>(Nat.lt_or_ge j k).elim (hke j h) (fun hh=>by obtain rfl:j=k:=oM;simpa using h25),fun j h h0 hj=>(Nat.lt_or_ge j k).elim (hkp j h h0) (fun hh=>by obtain rfl:j=k:=oM;omega),hlg0,rfl,rfl,hs⟩)
  refine Wp 15 [7,2,3,5,16,17,18,40] hs rfl<|Zy hs (Ya (s:=((k+1:Nat):Int)) rfl<|Wp 1 [] hs rfl<|Zx [2,3,5,16,17,18] rfl ⟨k+1,_,by omega,fun j h hj=>(Nat.lt_or_ge j k).elim (hke j h) (fun hh=>by obtain rfl:j=k:=oM;simpa using h25),fun j h h0 hj=>(Nat.lt_or_ge j k).elim (hkp j h h0) (fun hh=>by obtain rfl:j=k:=oM;omega),hlg0,rfl,rfl,hs⟩)
 refine Wp 4 [0] hs rfl<|Wu 1 [] hs rfl<|Bc [0,1,2,3,4,5,6,7] hs kR ?_
 replace hs:=hs.drew
 refine Xr [0,1] [0,0] hs rfl<|Xt 4 hs rfl (Cu (vs:=[.slice Ap f.progs.length cp,.slice An f.nodes.length cn,.slice Ae f.edges.length ce,.slice Ar f.routes.length cr,.slice Au nv.length cu]) isAgg45 sizeOf45 rfl hQu.whole rfl ?_)
 have hle:=hs.le
 refine Xo 2 rfl (Sc (vals_ok) hs rfl fun v3 G' H' _ hR hG44 hs=>?_)
 obtain ⟨rfl,bv,rfl,hQv⟩:=hR
 replace hs:=hs.n rfl
 replace hf:=hf.mono hG44
 replace hu:=hu.mono hG44
 replace hoN:=hoN.mono hG44
 refine Am hs hle hG44 (lSr _) ?_
 have hoI:=Vl hoN
 have hQv':=hQv
 rw [show o.length=(o.map fun x:Nat=>(x:Int)).length from by rw [List.length_map]] at hQv' hoI
 have hle:=hs.le
 refine Xo 3 rfl (Sc (srtd_ok (l:=o.map fun x:Nat=>(x:Int)) hQv' hoI Nj) hs rfl fun v4 G' H' _ hR hG45 hs=>?_)
 obtain ⟨rfl,l',hpm,hsl,h45⟩:=hR
 obtain ⟨A45,c45,rfl,_⟩:=id h45
 replace hs:=hs.n rfl
 replace hf:=hf.mono hG45
 replace hu:=hu.mono hG45
 refine Am hs hle hG45 (lSr _) ?_
 have hle:=hs.le
 refine Xo 5 rfl (Sc (gC hf hu hk.g.z hk.n) hs rfl fun v5 G' H' _ hR hG47 hs=>?_)
 obtain ⟨rfl,h47⟩:=hR
 obtain ⟨A47,c47,rfl,_⟩:=id h47
 replace hs:=hs.n rfl
 replace h45:=h45.mono hG47
 refine Am hs hle hG47 (lSr _) ?_
 have hle:=hs.le
 refine Xo 6 rfl (Sc (seqn_ok h45 h47 (by rw [hpm.length_eq];simp;omega)) hs rfl fun v6 G' H' _ hR hG48 hs=>?_)
 obtain ⟨rfl,rfl⟩:=hR
 replace hs:=hs.n rfl
 refine Am hs hle hG48 (lSr _)<|Xr [7] [] hs rfl<|Xe (Zk [4] rfl<|Ah<|Zz results35 rfl ?_)
 obtain rfl:k=cl.length:=by omega
 exact ⟨_,[],hs.done,rfl,_,rfl,by rw [decide_eq_true_iff,perm_srt hpm hsl Ou];exact ⟨fun h=>⟨fun e he=>by obtain ⟨j,hj,rfl⟩:=List.getElem_of_mem he;exact hke j hj hj,nF hkp,h⟩,fun h=>h.2.2⟩⟩
theorem Wy {G:Ghost} {Ap An Ae Ar:Option Addr} {cp cn ce cr:Nat} {f:Bw} {Au:Option Addr} {cu:Nat} {nv:List Int} {As:Option Addr} {cs:Nat} {s:List (List Bool)} (hf:Hb G Ap An Ae Ar cp cn ce cr f) (hu:Bt G (.slice Au nv.length cu) nv) (hsf:gJ G (.slice As s.length cs) s) {Ao Ac:Option Addr} {co cc:Nat} {o:List Nat} {cl:List Int} {u:List Int} (hoN:Cr G (.slice Ao o.length co) o) (hcI:Bt G (.slice Ac cl.length cc) cl) (hU:Ik f u) (hol:o.length≤12) (hcl:cl.length≤1000) (hk:eB f nv) (hT:Tab G) (hso:SOk f s) :
  Ai prog 15 [.agg #[.slice Ap f.progs.length cp,.slice An f.nodes.length cn,.slice Ae f.edges.length ce,.slice Ar f.routes.length cr,.slice Au nv.length cu],.slice As s.length cs,.agg #[.slice Ao o.length co,.slice Ac cl.length cc]] G [] fun r _ H'=>H'=[]∧∃ n e:Int,r=.tuple #[Vi n,Vi e]∧(e=0↔Gu f nv u o cl∧∀ x∈Ho f nv s u o,x∈cl)∧(e=310↔Gu f nv u o cl∧¬ ∀ x∈Ho f nv s u o,x∈cl)∧(e=1↔¬ Gu f nv u o cl)∧(e=0→n=((o.length+1:Nat):Int)):=by
 refine Ai.of_T [(0,_),(1,_),(2,_)] func15 rfl ntmps15 sM rfl fun w0 hs=>?_
 have hf0:=hf
 have hu0:=hu
 have hsf0:=hsf
 have hoN0:=hoN
 have hcI0:=hcI
 have hT0:=hT
 refine Wt 2 [] hs rfl<|O_s (Sb hs rfl fun b3 _ hs=>O_s (Sb hs rfl fun b5 _ hs=>Wp 8 [0,1] hs rfl<|O_s (Sc (zV hf hu hsf hk hT hso) hs rfl fun v1 G' H' _ hR hG13 hs=>?_)))
 obtain ⟨rfl,rfl⟩:=hR
 replace hs:=hs.n rfl
 replace hf:=hf.mono hG13
 replace hu:=hu.mono hG13
 replace hsf:=hsf.mono hG13
 replace hoN:=hoN.mono hG13
 replace hcI:=hcI.mono hG13
 replace hT:=hT.mono hG13
 refine Wp 14 [0,0,1,0] hs rfl<|O_s (Sc (gE hf hu hoN hcI hU hol hcl hk hT) hs rfl fun v2 G' H' _ hR hG19 hs=>?_)
 obtain ⟨rfl,bf,rfl,hbf⟩:=hR
 replace hs:=hs.n rfl
 replace hf:=hf.mono hG19
 replace hu:=hu.mono hG19
 replace hsf:=hsf.mono hG19
 replace hoN:=hoN.mono hG19
 replace hcI:=hcI.mono hG19
 replace hT:=hT.mono hG19
 cases hbv:bf
 ·
  refine Wp 8 [0,0] hs rfl<|Ah ?_
  refine Bi (vs:=[_,_]) results15 rfl ⟨rfl,rfl,trivial⟩ ?_
  try dsimp only [tup]
  have hform:¬ Gu f nv u o cl:=fun h=>by have:=hbf.2 h;rw [hbv] at this;cases this
  exact ⟨_,[],hs.done,rfl,_,_,rfl,⟨fun h=>absurd h dC,fun h=>absurd h.1 hform⟩,⟨fun h=>absurd h dC,fun h=>absurd h.1 hform⟩,⟨fun _=>hform,fun _=>rfl⟩,fun h=>absurd h dC⟩
 refine Wp 4 [0] hs rfl ?_
 have hform:Gu f nv u o cl:=hbf.1 hbv
 refine Wu 7 [1,0,0] hs rfl<|O_s (Sc (gD hf hu hsf hoN hk hT hU (fun i hi=>Pn i (hform.2.2.subset hi)) oM hso) hs rfl fun v3 G' H' _ hR hG25 hs=>?_)
 obtain ⟨rfl,h25⟩:=hR
 obtain ⟨A25,c25,rfl,_⟩:=id h25
 replace hs:=hs.n rfl
 replace hcI:=hcI.mono hG25
 refine Wp 3 [4,5,25,26,27] hs rfl ?_
 have hs:=hs.f1
 have hs:=hs.drop
 have hcz:(Ho f nv s u o).length≤1000:=by have h1:=(nC (nv:=Qf f nv) (ed:=kY f) (S:=Pw s) (U:=u) (r0:=Fl f) o).length_le;have h2:=kJ hU hk.r;unfold Ho;omega
 obtain ⟨Gp0,hGp⟩:=hs.name
 subst hGp
 have h25_0:=h25
 refine Zl [5,25,26,27] (fun m E w=>∃ (k:Nat) (G2:Ghost),k≤(Ho f nv s u o).length∧(∀ j (h:j<(Ho f nv s u o).length),j<k→(Ho f nv s u o)[j]∈cl)∧Wf Gp0 G2∧m=(Ho f nv s u o).length - k∧E=⟨[],[(5,Vp b5),(25,.slice A25 (Ho f nv s u o).length c25),(26,Vi (((Ho f nv s u o).length:Nat):Int)),(27,Vi (k:Int))]⟩∧St ⟨w0,G,Bl []⟩ G2 [.blk b5 35 [.slice Ao o.length co,.slice Ac cl.length cc]] w) rfl (⟨0,_,by omega,fun _ _ h=>absurd h (Nat.not_lt_zero _),Wf.refl _,rfl,rfl,hs⟩) fun m E w hI=>?_
 obtain ⟨k,G2,hkl,hke,hlg0,rfl,rfl,hs⟩:=hI
 have h25:=h25_0.mono hlg0
 have hcI:=hcI0.mono hs.le
 refine Wt 2 [] hs rfl<|Zy hs (Yc rfl (fun h28=>?_) fun h28=>?_)
 ·
  refine Wp 8 [0] hs rfl<|Zy hs (Dl h25 k underlying33 sizeOf3 rfl rfl rfl oM fun p29 hp29 =>Zy hs (Yg rfl (hp29)<|Wp 7 [0,1,0] hs rfl<|O_s (Sc (So hcI oM) hs rfl fun v4 G' H' _ hR hG34 hs=>?_)))
  obtain ⟨rfl,rfl⟩:=hR
  replace hs:=hs.n rfl
  replace hlg0:=hlg0.mono hG34
  cases h34:cl.contains ((Ho f nv s u o)[k]'oM)
  ·
   refine Wp 8 [0,0] hs rfl<|Ah ?_
   refine Bi (vs:=[_,_]) results15 rfl ⟨rfl,rfl,trivial⟩ ?_
   try dsimp only [tup]
   have hnall:¬ ∀ x∈Ho f nv s u o,x∈cl:=fun h=>absurd (h _ (List.getElem_mem (show k<(Ho f nv s u o).length by omega))) (by simpa using h34)
   exact ⟨_,[],hs.done,rfl,_,_,rfl,⟨fun h=>absurd h dC,fun h=>absurd h.2 hnall⟩,⟨fun _=>⟨hform,hnall⟩,fun _=>rfl⟩,⟨fun h=>absurd h dC,fun h=>absurd hform h⟩,fun h=>absurd h dC⟩
  refine Wp 5 [0] hs rfl<|Zy hs (Ya (s:=((k+1:Nat):Int)) rfl<|Wp 1 [] hs rfl<|Zx [5,25,26,27] rfl ⟨k+1,_,by omega,fun j h hj=>(Nat.lt_or_ge j k).elim (hke j h) (fun hh=>by obtain rfl:j=k:=oM;simpa using h34),hlg0,rfl,rfl,hs⟩)
 refine Wp 4 [0] hs rfl<|Wu 5 [0,0] hs rfl<|Zy hs (Ya (s:=((o.length+1:Nat):Int)) rfl<|Wp 3 [0] hs rfl<|Ah ?_)
 refine Bi (vs:=[_,_]) results15 rfl ⟨rfl,rfl,trivial⟩ ?_
 try dsimp only [tup]
 obtain rfl:k=(Ho f nv s u o).length:=by omega
 have hall:∀ x∈Ho f nv s u o,x∈cl:=fun x hx=>by obtain ⟨j,hj,rfl⟩:=List.getElem_of_mem hx;exact hke j hj hj
 exact ⟨_,[],hs.done,rfl,_,_,rfl,⟨fun _=>⟨hform,hall⟩,fun _=>rfl⟩,⟨fun h=>absurd h dC,fun h=>absurd hall h.2⟩,⟨fun h=>absurd h dC,fun h=>absurd hform h⟩,fun _=>rfl⟩
theorem ori_ok {G:Ghost} {v1:Value} {a b:Int} (h1:Bt G v1 [a,b]) :
  Ai prog 43 [v1] G [] fun r _ H'=>H'=[]∧r=Vi (if a=0 then b else a):=by
 obtain ⟨A1,c1,rfl,_⟩:=id h1
 show Ai _ _ [.slice A1 2 c1] _ _ _
 refine Ai.of_T [(0,_)] func43 rfl ntmps43 sM rfl fun w0 hs=>?_
 have h10:=h1
 refine Wt 15 [0,0,0] hs rfl<|Dp (Ej 3 (L:=[(3,_),(6,_),(7,_),(8,_)]) ⟨rfl,rfl,rfl,rfl,trivial⟩ (Gn<|Wt 11 [0] hs rfl<|Zy hs (Dl h1 0 underlying33 sizeOf3 rfl rfl rfl sM fun p10 hp10 =>Zy hs (Yg rfl (hp10)<|Wp 6 [0] hs rfl<|Zy hs (Yc rfl (fun h14=>?_) fun h14=>?_)))))
 ·
  refine Wp 7 [0,0] hs rfl<|Ah<|Zz results43 rfl ?_
  dsimp only [List.getElem_cons_zero,List.getElem_cons_succ] at *
  exact ⟨_,[],hs.done,rfl,congrArg (Value.int .i64) (by split<;>omega)⟩
 refine Wp 4 [0] hs rfl<|Zy hs (Eb (c:=(1)) rfl rfl dC dC<|Wp 1 [] hs rfl<|Cl ⟨[(3,_),(6,_),(7,_),(8,_)],⟨rfl,rfl,rfl,rfl,trivial⟩,Gn ?_⟩)
 refine Wt 11 [0] hs rfl<|Zy hs (Dl h1 1 underlying33 sizeOf3 rfl rfl rfl sM fun p10 hp10 =>Zy hs (Yg rfl (hp10)<|Wp 6 [0] hs rfl<|Zy hs (Yc rfl (fun h14=>?_) fun h14=>?_)))
 ·
  refine Wp 7 [0,0] hs rfl<|Ah<|Zz results43 rfl ?_
  dsimp only [List.getElem_cons_zero,List.getElem_cons_succ] at *
  exact ⟨_,[],hs.done,rfl,congrArg (Value.int .i64) (by split<;>omega)⟩
 refine Wp 4 [0] hs rfl<|Zy hs (Eb (c:=(2)) rfl rfl dC dC<|Wp 1 [] hs rfl<|Cl ⟨[(3,_),(6,_),(7,_),(8,_)],⟨rfl,rfl,rfl,rfl,trivial⟩,Gn ?_⟩)
 refine Wt 7 [0] hs rfl<|Wu 5 [1,2] hs rfl<|Ah<|Zz results43 rfl ?_
 dsimp only [List.getElem_cons_zero,List.getElem_cons_succ] at *
 exact ⟨_,[],hs.done,rfl,congrArg (Value.int .i64) (by split<;>omega)⟩
theorem ned1_ok {G:Ghost} {a b:Int×Int} :
  Ai prog 42 [.agg (prC a).toArray,.agg (prC b).toArray] G [] fun r _ H'=>H'=[]∧r=Vi (cmpQ a b):=by
 refine Ai.of_T [(0,_),(1,_)] func42 rfl ntmps42 sM rfl fun w0 hs =>Wt 2 [] hs rfl<|O_s (Sb hs rfl fun b2 _ hs=>O_s (Sb hs rfl fun b3 _ hs=>Wp 3 [0] hs rfl<|Bc [0,1,2,3,4,5,6,7,8,9,10,11,12] hs kR ?_))
 replace hs:=hs.drew
 refine Xt 0 hs rfl (Du 0 underlying70 sizeOf3 rfl rfl rfl dC (m:=0) rfl<|Xr [1] [1] hs rfl<|Xt 2 hs rfl (Du 0 underlying70 sizeOf3 rfl rfl rfl dC (m:=0) rfl<|Xr [3] [0] hs rfl<|Xt 5 hs rfl (Du 1 underlying70 sizeOf3 rfl rfl rfl dC (m:=1) rfl<|Xr [6] [1] hs rfl<|Xt 7 hs rfl (Du 1 underlying70 sizeOf3 rfl rfl rfl dC (m:=1) rfl<|Xr [8] [0] hs rfl ?_))))
 have hle:=hs.le
 refine Xo 4 rfl (Sc (jP) hs rfl fun v1 G' H' _ hR hG9 hs=>?_)
 obtain ⟨rfl,rfl⟩:=hR
 replace hs:=hs.n rfl
 refine Am hs hle hG9 (lSr _) ?_
 have hle:=hs.le
 refine Xo 9 rfl (Sc (jP) hs rfl fun v2 G' H' _ hR hG14 hs=>?_)
 obtain ⟨rfl,rfl⟩:=hR
 replace hs:=hs.n rfl
 refine Am hs hle hG14 (lSr _) ?_
 have hle:=hs.le
 refine Xo 10 rfl (Se hs zeroValue3 rfl fun v3 _ hs _=>?_)
 obtain ⟨_,hG15,hl15,hs⟩:=hs.fixRow noM
 refine Am hs hle hG15 (lSr _) ?_
 have hle:=hs.le
 refine Xo 11 rfl (Sc (ori_ok (a:=cG a.1 b.1) (b:=cG a.2 b.2) hl15) hs rfl fun v4 G' H' _ hR hG16 hs=>?_)
 obtain ⟨rfl,rfl⟩:=hR
 replace hs:=hs.n rfl
 refine Am hs hle hG16 (lSr _)<|Xr [12] [] hs rfl<|Xe (Zk [4] rfl<|Ah<|Zz results42 rfl ?_)
 exact ⟨_,[],hs.done,rfl,rfl⟩
theorem insy_ok {G:Ghost} :
  Ai prog 127 [Vn,Vi 0,Vi 0,.func (.func 42) #[] #[]] G [.row 70 2 (Vn) 0 []] fun r _ H'=>H'=[.row 70 2 (Vn) 0 []]:=by
 refine Ai.of_T [(0,_),(1,_),(2,_),(3,_)] func127 rfl ntmps127 sM rfl fun w0 hs =>Wt 3 [] hs rfl<|Zy hs (Eb (c:=(1)) rfl rfl dC dC<|Wp 2 [0] hs rfl<|Dp (Ej 1 (L:=[(0,_),(1,_),(2,_),(3,_),(8,_)]) ⟨rfl,rfl,rfl,rfl,rfl,trivial⟩ (Gn<|Wt 9 [0] hs rfl ?_)))
 try dsimp only [Ex.At,Ex.sqs,Ex.sq,Ex.lp,Ex.bk]
 try rw [show Nat.beq _ _=true from Nat.beq_refl _,cond_true]
 refine Ez (vs:=[]) results127 rfl trivial ?_
 try dsimp only [tup]
 exact ⟨_,_,hs,rfl⟩
theorem pdqy_ok {G:Ghost} {z:Int} :
  Ai prog 95 [Vn,Vi 0,Vi 0,Vi z,.func (.func 42) #[] #[]] G [.row 70 2 (Vn) 0 []] fun r _ H'=>H'=[.row 70 2 (Vn) 0 []]:=by
 refine Ai.of_T [(0,_),(1,_),(2,_),(3,_),(4,_)] func95 rfl ntmps95 sM rfl fun w0 hs =>Wt 8 [0,0] hs rfl<|Dp (Ej 1 (L:=[(0,_),(1,_),(2,_),(3,_),(4,_),(10,_),(11,_)]) ⟨rfl,rfl,rfl,rfl,rfl,rfl,rfl,trivial⟩ (Gn<|Wt 5 [] hs rfl<|Zy hs (Fc (c:=(0)) rfl rfl dC dC<|Wp 15 [0,0] hs rfl<|O_s (Sc (insy_ok) hs rfl fun v1 G' H' _ hR hG30 hs=>?_))))
 obtain rfl:=hR
 replace hs:=hs.n rfl
 refine Wp 1 [0] hs rfl<|Ah ?_
 refine Bi (vs:=[]) results95 rfl trivial ?_
 try dsimp only [tup]
 exact ⟨_,_,hs,rfl⟩
theorem srty_ok {G:Ghost} :
  Ai prog 67 [Vn,.func (.func 42) #[] #[]] G [.row 70 2 (Vn) 0 []] fun r _ H'=>H'=[.row 70 2 (Vn) 0 []]:=by
 refine Ai.of_T [(0,_),(1,_)] func67 rfl ntmps67 sM rfl fun w0 hs =>Wt 10 [0] hs rfl<|Zy hs (Dj underlying3 underlying162 (c:=0) rfl dC<|O_s (Sc (Wn (a:=0) oM) hs rfl fun v1 G' H' _ hR hG11 hs=>?_))
 obtain ⟨rfl,z,rfl⟩:=hR
 replace hs:=hs.n rfl
 refine Wp 1 [] hs rfl<|O_s (Sc (pdqy_ok) hs rfl fun v2 G' H' _ hR hG13 hs=>?_)
 obtain rfl:=hR
 replace hs:=hs.n rfl
 refine Cl (Ez (vs:=[]) results67 rfl trivial ?_)
 try dsimp only [tup]
 exact ⟨_,_,hs,rfl⟩
theorem swo_pr:Go.Sort.SWO (ltOf cmpQ) :=
  ⟨fun x=>aV.2 oM,fun x y z h1 h2=>Ph.2 (by have h1:=Ph.1 h1;have h2:=Ph.1 h2;omega),fun x y z h1 h2=>aV.2 (by have h1:=aV.1 h1;have h2:=aV.1 h2;omega)⟩
theorem srtgz_ok {G:Ghost} {v:Value} {l:List (Int×Int)} (hn:l.length≤1000000):Ai prog 67 [v,.func (.func 42) #[] #[]] G [.row 70 2 v l.length (kV l)] fun _ _ H'=>∃ l',l'.Perm l∧Srt mU l'∧H'=[.row 70 2 v l'.length (kV l')]:=by
  intro w hs
  rcases aW hs with ⟨rfl,h0,hx⟩ | ⟨b,cap,rfl,_⟩
  · obtain rfl:=List.eq_nil_of_length_eq_zero h0
    exact (srty_ok.mono fun r G' H' _ h=>⟨[],List.Perm.refl _,List.Pairwise.nil,h⟩) w hs
  · exact ((zN (k:=2) (enc:=prC) Tryz.sortPr isAgg70 sizeOf70 (fun _=>rfl) (fun x v hv=>by simp only [prC,List.mem_cons,List.not_mem_nil,or_false] at hv;rcases hv with rfl | rfl<;>rfl) swo_pr (enters_of func42 kR rfl) (fun G x y=>ned1_ok.mono fun r G' H' _ h=>h.symm) rfl (Nat.lt_of_le_of_lt hn dC)).mono fun r G' H' _ ⟨l',h1,h2,h3⟩=>⟨l',h1,h2,by rw [h1.length_eq];exact h3⟩) w hs
theorem keyU:rL prog 70 eK:=by
  refine rL.asked (td:=.array 2 3) underlying70 ?_ ?_ ?_ ?_ ?_
  · rintro ⟨a,b⟩ ⟨c,d⟩ h
    simp only [eK] at h
    obtain ⟨rfl,rfl⟩:=lG.1 h
    rfl
  · rintro ⟨a,b⟩
    simp [eK,K2,Instr.sameBits]
  · rintro em ⟨a,b⟩ w
    exact Qk em 9998 underlying70 sizeOf3 isAgg3 underlying3 _ _
  · rintro ⟨a,b⟩ ⟨c,d⟩;rfl
  · rintro ⟨a,b⟩ ⟨c,d⟩ w
    show (Op.equalIn (9998+2) _ _ _).run _ w=_
    simp only [eK,K2]
    rw [Tx 9998 underlying70 sizeOf3 isAgg3 underlying3]
    congr 1
    rw [Bool.eq_iff_iff];simp only [Bool.and_eq_true,decide_eq_true_eq,Prod.mk.injEq]
def Vr (G:Ghost) (b:Nat) (ks:List (Int×Int)):Prop:=G b=some (.map (esT eK ks) ks.length)
theorem Vr.mono {G G':Ghost} (h:G.le G') {b:Nat} {ks:List (Int×Int)} (hm:Vr G b ks):Vr G' b ks:=h _ _ hm
theorem nd_le {α:Type} [DecidableEq α] {l m:List α} (hn:l.Nodup) (h:∀ e∈l,e∈m):l.length≤m.length:=by
  induction l generalizing m with
  | nil=>exact Nat.zero_le _
  | cons a l ih =>
    rw [List.nodup_cons] at hn
    have ha:=h a List.mem_cons_self
    have:=ih (m:=m.erase a) hn.2 fun e he=>(List.mem_erase_of_ne (fun e2=>hn.1 (by rw [← e2];exact he))).2 (h e (List.mem_cons_of_mem _ he))
    rw [List.length_erase_of_mem ha] at this
    have hm:0<m.length:=List.length_pos_of_mem ha
    rw [List.length_cons];omega
theorem nd_lt {α:Type} [DecidableEq α] {d k:List α} {a:α} (h:d.Nodup) (hs:∀ a∈d,a∈k) (ha:a∈k) (hn:¬ a∈d):d.length<k.length:=by
  have:=nd_le (l:=a::d) (m:=k) (List.nodup_cons.2 ⟨hn,h⟩) (fun x hx=>(List.mem_cons.1 hx).elim (fun e=>e▸ha) (hs x))
  rw [List.length_cons] at this;omega
theorem nd_snoc {α:Type} {d:List α} {a:α} (h:d.Nodup) (hn:¬ a∈d):(d++[a]).Nodup:=by
  rw [List.nodup_append];exact ⟨h,by simp,fun x hx y hy e=>by rw [List.mem_singleton.1 hy] at e;exact hn (e▸hx)⟩
theorem nd_perm {α:Type} [DecidableEq α] {d k:List α} (h:d.Nodup) (hk:k.Nodup) (hs:∀ a∈d,a∈k) (ha:∀ a∈k,a∈d):d.Perm k :=
  (List.perm_ext_iff_of_nodup h hk).2 fun a=>⟨hs a,ha a⟩
theorem mkey_ok {G:Ghost} {bm:Nat} :
  Ai prog 46 [.map (some bm)] G [] fun r G' H'=>H'=[]∧∃ b,r=.func (.func 68) #[] #[Vp b]∧Br G' b [.map (some bm)]:=by
 refine Ai.of_T [(0,_)] func46 rfl ntmps46 sM rfl fun w0 hs =>Wt 2 [] hs rfl<|O_s (Sb hs rfl fun b1 _ hs=>Wp 4 [0] hs rfl<|Zy hs (Dn (vs:=[_]) rfl<|Wp 2 [0] hs rfl<|Ah ?_))
 obtain ⟨_,hGbhQv,hQv,hs⟩:=hs.fixBlk (fun k _=>Ht k)
 replace hQv:Br _ b1 _:=hQv
 refine Zz results46 rfl ?_
 exact ⟨_,[],hs.done,rfl,_,rfl,hQv⟩
theorem mky1_ok {lp b bm:Nat} {G:Ghost} {ks:List (Int×Int)} {H0:List Res} {J:List (Int×Int)→Ghost→List Res→Prop} (hb:Br G b [.map (some bm)]) (hm:Vr G bm ks) (hnd:ks.Nodup) (hJm:∀ n G1 G2 H,Ghost.le G1 G2→J n G1 H→J n G2 H)
  (hY:∀ done a G' H',a∈ks→¬ a∈done→done.Nodup→(∀ x∈done,x∈ks)→G.le G'→J done G' H'→Dm prog lp [.agg (prC a).toArray] G' H' fun r G'' H''=>r=Vt∧J (done++[a]) G'' H'') (hJ0:J [] G H0) :
  Ai prog 68 [.func (.yield lp) #[] #[],Vp b] G H0 fun _ G' H'=>∃ done,done.Perm ks∧J done G' H':=by
 refine Ai.of_T [(0,_),(1,_)] func68 rfl ntmps68 sM rfl fun w0 hs=>?_
 have hb0:=hb
 have hm0:=hm
 refine Wt 2 [] hs rfl<|Zy hs (Yg rfl (hb 0 (.map (some bm)) rfl)<|O_s (vA hs hm underlying88 rfl fun it _ hs =>Wp 1 [0] hs rfl<|Zl [0,5] (fun m E w=>∃ (done:List (Int×Int)) (G':Ghost) (H':List Res),done.Nodup∧(∀ x∈done,x∈ks)∧J done G' H'∧m=ks.length - done.length∧E=⟨[],[(0,.func (.yield lp) #[] #[]),(5,Vp it)]⟩∧St ⟨w0,G,Bl H0⟩ G' (.obj it (itT bm ks done)::H') w) rfl (⟨[],_,_,List.nodup_nil,fun _ h=>gK,hJm _ _ _ _ hs.le hJ0,rfl,rfl,hs⟩) fun m E w hI=>?_))
 obtain ⟨done,G',H',hdn,hds,hJ,rfl,rfl,hs⟩:=hI
 have hb:=hb0.mono hs.le
 have hm:=hm0.mono hs.le
 refine Wt 2 [] hs rfl<|O_s (S_nextT hs hm hnd hdn hds rfl (fun hall _ hs=>?_) (fun a ha hna _ hs=>?_))
 ·
  replace hall:∀ a∈ks,a∈done:=hall
  refine Wp 5 [0] hs rfl ?_
  try dsimp only [Ex.At,Ex.sqs,Ex.sq,Ex.lp,Ex.bk]
  try rw [show Nat.beq _ _=true from Nat.beq_refl _,cond_true]
  refine Ez (vs:=[]) results68 rfl trivial ?_
  try dsimp only [tup]
  exact ⟨_,_,hs.drop,done,nd_perm hdn hnd hds hall,hJ⟩
 refine Wp 8 [0] hs rfl<|Zy hs (vB (enc:=eK) 0 rfl hm ha rfl<|Wp 1 [] hs rfl<|O_s (Sa hs zeroValue70 rfl fun b3 _ hs=>O_n (Sg hs rfl (rfl) fun _ hs=>Wp 5 [0,0] hs rfl ?_)))
 have hs:=hs.front 1 rfl (H':=(_::_::H')) rfl
 have hs:=hs.front 1 rfl (H':=(_::_::H')) rfl
 have hs:=hs.drop
 have hs:=hs.swap (A:=[_])
 refine O_s (Ln (H1:=H') (H:=[.obj it _]) hs rfl rfl (hY done _ _ _ ha hna hdn hds hs.le hJ) fun v G'' H'' w' hR hG12 hs=>?_)
 obtain ⟨rfl,hJ⟩:=hR
 have hs:=hs.swap
 refine Wp 4 [0] hs rfl ?_
 refine ⟨_,?_,[(0,_),(5,_)],⟨rfl,rfl,trivial⟩,⟨done++[a],_,_,nd_snoc hdn hna,fun x hx=>(List.mem_append.1 hx).elim (hds x) (fun h=>by rw [List.mem_singleton.1 h];exact ha),hJ,rfl,rfl,hs⟩⟩
 have:=nd_lt hdn hds ha hna;simp;omega
theorem asqp_ok {b bm:Nat} {G:Ghost} {ks:List (Int×Int)} (hb:Br G b [.map (some bm)]) (hm:Vr G bm ks) (hnd:ks.Nodup) (hkl:ks.length≤1000000) :
  Ai prog 94 [Vn,.func (.func 68) #[] #[Vp b]] G [] fun r _ H'=>∃ q,q.Perm ks∧H'=[.row 70 2 r q.length (kV q)]:=by
 refine Ai.of_TM [(0,_),(1,_)] func94 rfl ntmps94 sM rfl fun w0 hs =>Wt 2 [] hs rfl<|O_s (Sb hs rfl fun b2 _ hs=>Wp 7 [0,0] hs rfl ?_)
 have hs:=hs.nilRow 70 2
 have hs:=hs.f1.f1
 refine Wu 1 [] hs rfl<|Nu (H1:=[_,_]) (H:=[]) (R:=fun G' H2=>∃ (v:Value) (q:List (Int×Int)),q.Perm ks∧H2=[.row 70 2 v q.length (kV q),.blk b2 40 [v]]) hs rfl func68 rfl kR ?hit ?done
 case hit =>
  intro lp D rec hp ha hbd hst hpe hAg
  obtain ⟨state,pending,fn',tmps,params,assign,body,defers⟩:=rec
  dsimp only at hp ha hbd hst hpe hAg
  subst hst hpe
  refine Ai.mono (mky1_ok (lp:=lp) (J:=fun q G' H'=>∃ (v:Value),H'=[.obj lp (.loop { state:=.ready,pending:=none,fn:=fn',tmps:=tmps,params:=params,assign:=assign,body:=body,defers:=defers }),.obj D (.deferred (some [])),.row 70 2 v q.length (kV q),.blk b2 40 [v]]) hb hm hnd (fun _ _ _ _ _ h=>h) ?round ⟨_,rfl⟩) ?fin
  case fin =>
   rintro r G' H' _ ⟨q,hq,v,rfl⟩
   exact ⟨_,rfl,v,q,hq,rfl⟩
  rintro q a G' H' hak hna hqn hqs hle ⟨v7,rfl⟩
  have hql:=nd_lt hqn hqs hak hna
  subst hp ha hbd
  refine Dm.of_TB hAg rfl rfl sM rfl fun w1 hs=>?_
  refine Zr<|O_s (Sa hs zeroValue70 rfl fun b5 _ hs=>O_n (Es hs sizeOf70 rfl rfl (vs:=[_,_]) rfl (rfl) sM (cs':=[_,_]) rfl fun _ hs=>?_))
  have hs:=hs.f4.f4.f4.f4
  refine Cl ⟨_,_,hs,fun w2 hs=>?_⟩
  refine Wt 4 [3,4] hs rfl<|O_s (Ca hs underlying40 sizeOf70 zeroValue70 rfl rfl dC dC rfl (cs:=[_,_]) rfl rfl fun v1 _ hs _=>?_)
  obtain ⟨_,hG10,hl10,hs⟩:=hs.fixRow (eM hs (Hp.cm 0 rfl (fun _ h=>h) (Hp.cm 1 rfl (fun _ h=>h) (Hp.cm 2 rfl (fun _ h=>h) (Hp.cm 3 rfl (fun _ h=>h) (Hp.nil _))))))
  refine O_s (Bf hs.f2 underlying40 TI70 rfl dC rfl rfl (hl10) ((fun y hy=>by simp only [List.mem_cons,List.not_mem_nil,or_false] at hy;rcases hy with rfl | rfl<;>rfl)) oM oM fun v2 _ hs =>O_n (Sd hs.f3 rfl (hs.f3.rowOne 1 rfl) fun _ hs=>?_))
  have hs:=hs.f1.f3.f3.f4
  have hs:=hs.drop
  refine Cl ⟨_,_,hs,rfl,v2,?_⟩
  rw [List.length_append,fH];rfl
 case done =>
  rintro lp D o' G' H2 w' ⟨v7,q,hq,rfl⟩ hle hs
  refine Wt 5 [3,0] hs rfl<|Ah ?_
  have hs:=hs.f2.f1
  refine Hf (Ds:=[D]) (show St _ _ (Cc [D]++_) _ from hs) (vs:=[_]) results94 rfl (fun _ hs=>⟨⟨rfl,trivial⟩,?_⟩)
  try dsimp only [tup]
  exact ⟨_,_,hs.weak hs.le (gLr _) (lSa [_] _),q,hq,rfl⟩
theorem cllp_ok {b bm:Nat} {G:Ghost} {ks:List (Int×Int)} (hb:Br G b [.map (some bm)]) (hm:Vr G bm ks) (hnd:ks.Nodup) (hkl:ks.length≤1000000) :
  Ai prog 66 [.func (.func 68) #[] #[Vp b]] G [] fun r _ H'=>∃ q,q.Perm ks∧H'=[.row 70 2 r q.length (kV q)]:=by
 refine Ai.of_T [(0,_)] func66 rfl ntmps66 sM rfl fun w0 hs=>?_
 have hb0:=hb
 have hm0:=hm
 refine Wt 7 [0] hs rfl<|O_s (Sc (asqp_ok hb hm hnd hkl) hs rfl fun v1 G' H' _ hR hG4 hs=>?_)
 obtain ⟨q,hq,rfl⟩:=hR
 replace hs:=hs.n rfl
 refine Wp 2 [0] hs rfl<|Ah<|Zz results66 rfl ?_
 exact ⟨_,_,hs,q,hq,rfl⟩
theorem srfn_ok {b bm:Nat} {G:Ghost} {ks:List (Int×Int)} (hb:Br G b [.map (some bm)]) (hm:Vr G bm ks) (hnd:ks.Nodup) (hkl:ks.length≤1000000) :
  Ai prog 45 [.func (.func 68) #[] #[Vp b],.func (.func 42) #[] #[]] G [] fun r G' H'=>H'=[]∧∃ q,q.Perm ks∧Srt mU q∧kU G' r q:=by
 refine Ai.of_T [(0,_),(1,_)] func45 rfl ntmps45 sM rfl fun w0 hs=>?_
 have hb0:=hb
 have hm0:=hm
 refine Wt 7 [0] hs rfl<|O_s (Sc (cllp_ok hb hm hnd hkl) hs rfl fun v1 G' H' _ hR hG7 hs=>?_)
 obtain ⟨q,hq,rfl⟩:=hR
 replace hs:=hs.n rfl
 refine Wp 6 [0] hs rfl<|O_s (Sc (srtgz_ok (by rw [hq.length_eq];exact hkl)) hs rfl fun v2 G' H' _ hR hG10 hs=>?_)
 obtain ⟨l',hpm,hsl,rfl⟩:=hR
 replace hs:=hs.n rfl
 refine Wp 6 [0,0] hs rfl<|Ah ?_
 obtain ⟨_,hG_hfr,hfr,hs⟩:=hs.fixRow noM
 refine Zz results45 rfl ?_
 exact ⟨_,[],hs.done,rfl,l',hpm.trans hq,hsl,fL hfr⟩
def qJ (f:Bw) (x:List Int) (e:Int):Int×Int:=(x.getD (kY f e).1 0,x.getD (kY f e).2 0)
def bL (f:Bw) (nv u:List Int) (o:List Nat) (cl:List Int) (n:Nat) (p:Int×Int):Prop:=∃ (j:Nat) (x:List Int),j<n∧(Rd f nv o)[j]?=some x∧∃ e∈u,e∉cl∧p=qJ f x e
theorem ned_succ {f:Bw} {nv u:List Int} {o:List Nat} {cl:List Int} {n:Nat} {x:List Int} (hx:(Rd f nv o)[n]?=some x) {p:Int×Int}:(bL f nv u o cl n p∨∃ e∈u.take u.length,e∉cl∧p=qJ f x e)↔bL f nv u o cl (n+1) p:=by
  rw [List.take_length]
  constructor
  · rintro (⟨j,y,hj,hy,h⟩ | h)
    · exact ⟨j,y,by omega,hy,h⟩
    · exact ⟨n,x,by omega,hx,h⟩
  · rintro ⟨j,y,hj,hy,h⟩
    rcases Nat.lt_or_ge j n with h1 | h1
    · exact .inl ⟨j,y,h1,hy,h⟩
    · obtain rfl:j=n:=by omega
      rw [hx] at hy;injection hy with hy;subst hy
      exact .inr h
theorem qK {α:Type} {u:List α} {k:Nat} (h:k<u.length) {P:α→Prop}:(∃ e∈u.take (k+1),P e)↔(∃ e∈u.take k,P e)∨P u[k]:=by
  rw [Eh h]
  constructor
  · rintro ⟨e,he,hp⟩
    rcases List.mem_append.1 he with he | he
    · exact .inl ⟨e,he,hp⟩
    · rw [List.mem_singleton.1 he] at hp;exact .inr hp
  · rintro (⟨e,he,hp⟩ | hp)
    · exact ⟨e,List.mem_append_left _ he,hp⟩
    · exact ⟨_,List.mem_append_right _ (List.mem_singleton.2 rfl),hp⟩
theorem addK_len {α:Type} [DecidableEq α] {ks:List α} {a:α}:(Qn ks a).length≤ks.length+1:=by unfold Qn;split<;>simp
theorem qL {G:Ghost} {Ap An Ae Ar:Option Addr} {cp cn ce cr:Nat} {f:Bw} {Au:Option Addr} {cu:Nat} {nv:List Int} (hf:Hb G Ap An Ae Ar cp cn ce cr f) (hu:Bt G (.slice Au nv.length cu) nv) {Ao Ac:Option Addr} {co cc:Nat} {o:List Nat} {cl:List Int} {u:List Int} (hoN:Cr G (.slice Ao o.length co) o) (hcI:Bt G (.slice Ac cl.length cc) cl) (hU:Ik f u) (hol:o.length≤12) (hcl:cl.length≤1000) (hk:eB f nv) (hT:Tab G) (hform:Gu f nv u o cl) (h12:(Rd f nv o).length*u.length≤1000000) :
  Ai prog 17 [.agg #[.slice Ap f.progs.length cp,.slice An f.nodes.length cn,.slice Ae f.edges.length ce,.slice Ar f.routes.length cr,.slice Au nv.length cu],.agg #[.slice Ao o.length co,.slice Ac cl.length cc]] G [] fun r G' H'=>H'=[]∧∃ v q,r=.tuple #[v,Vi 0]∧kU G' v q∧Srt mU q∧q.Nodup∧∀ p,p∈q↔bL f nv u o cl (Rd f nv o).length p:=by
 refine Ai.of_TM [(0,_),(1,_)] func17 rfl ntmps17 sM rfl fun w0 hs=>?_
 have hf0:=hf
 have hu0:=hu
 have hoN0:=hoN
 have hcI0:=hcI
 have hT0:=hT
 refine Wt 2 [] hs rfl<|O_s (Sb hs rfl fun b2 _ hs=>O_s (Sb hs rfl fun b3 _ hs=>Wp 7 [0,1] hs rfl<|O_s (Sc (Wx hf hu hk hT) hs rfl fun v1 G' H' _ hR hG15 hs=>?_)))
 obtain ⟨rfl,rfl⟩:=hR
 replace hs:=hs.n rfl
 replace hf:=hf.mono hG15
 replace hu:=hu.mono hG15
 replace hoN:=hoN.mono hG15
 replace hcI:=hcI.mono hG15
 replace hT:=hT.mono hG15
 refine Wp 14 [0,0,1,0] hs rfl<|O_s (Sc (gE hf hu hoN hcI hU hol hcl hk hT) hs rfl fun v2 G' H' _ hR hG21 hs=>?_)
 obtain ⟨rfl,bf,rfl,hbf⟩:=hR
 replace hs:=hs.n rfl
 replace hf:=hf.mono hG21
 replace hu:=hu.mono hG21
 replace hoN:=hoN.mono hG21
 replace hcI:=hcI.mono hG21
 replace hT:=hT.mono hG21
 obtain rfl:bf=true:=hbf.2 hform
 refine Wp 8 [0,0,1] hs rfl<|O_s (Sc (fK hf hk.g.z hk.g.o hT hk.c hk.r) hs rfl fun v3 G' H' _ hR hG26 hs=>?_)
 obtain ⟨rfl,vu,u',rfl,hU',huI,hul⟩:=hR
 replace hs:=hs.n rfl
 replace hf:=hf.mono hG26
 replace hu:=hu.mono hG26
 replace hoN:=hoN.mono hG26
 replace hcI:=hcI.mono hG26
 replace hT:=hT.mono hG26
 obtain rfl:=Uv hU hU'
 obtain ⟨Ae2,ce2,rfl,_⟩:=id huI
 refine Wp 3 [] hs rfl<|O_s (Sa hs zeroValue33 rfl fun b7 _ hs=>O_n (Sd hs rfl rfl fun _ hs=>Wp 2 [3,2,3,7] hs rfl ?_))
 have hs:=hs.f2
 obtain ⟨_,hGbhQu,hQu,hs⟩:=hs.fixBlk (fun k _=>Ht k)
 replace hf:=hf.mono hGbhQu
 replace hu:=hu.mono hGbhQu
 replace hoN:=hoN.mono hGbhQu
 replace hcI:=hcI.mono hGbhQu
 replace hT:=hT.mono hGbhQu
 replace huI:=huI.mono hGbhQu
 replace hQu:Br _ b2 _:=hQu
 have hs:=hs.f1
 obtain ⟨_,hGbhQp,hQp,hs⟩:=hs.fixBlk (fun k _=>Ht k)
 replace hf:=hf.mono hGbhQp
 replace hu:=hu.mono hGbhQp
 replace hoN:=hoN.mono hGbhQp
 replace hcI:=hcI.mono hGbhQp
 replace hT:=hT.mono hGbhQp
 replace huI:=huI.mono hGbhQp
 replace hQu:=hQu.mono hGbhQp
 replace hQp:Br _ b3 _:=hQp
 obtain ⟨_,hGbhQ7,hQ7,hs⟩:=hs.fixBlk (fun k _=>Ht k)
 replace hf:=hf.mono hGbhQ7
 replace hu:=hu.mono hGbhQ7
 replace hoN:=hoN.mono hGbhQ7
 replace hcI:=hcI.mono hGbhQ7
 replace hT:=hT.mono hGbhQ7
 replace huI:=huI.mono hGbhQ7
 replace hQu:=hQu.mono hGbhQ7
 replace hQp:=hQp.mono hGbhQ7
 replace hQ7:Br _ b7 _:=hQ7
 refine Wu 2 [] hs rfl<|O_s (Jw hs fun bm _ hs =>O_s (Sa hs zeroValue88 rfl fun b9 _ hs=>O_n (Sd hs rfl rfl fun _ hs=>Wp 4 [0] hs rfl<|Zy hs (Cu (vs:=[.slice Ap f.progs.length cp,.slice An f.nodes.length cn,.slice Ae f.edges.length ce,.slice Ar f.routes.length cr,.slice Au nv.length cu]) isAgg45 sizeOf45 rfl hQu.whole rfl<|Wp 1 [0] hs rfl<|Zy hs (Yg rfl (hQp 0 (.slice Ao o.length co) rfl)<|O_s (Sc (qE) hs rfl fun v4 G' H' _ hR hG33 hs=>?_))))))
 obtain ⟨rfl,bu,bo,rfl,hQ1,hQ2⟩:=hR
 replace hs:=hs.n rfl
 replace hf:=hf.mono hG33
 replace hu:=hu.mono hG33
 replace hoN:=hoN.mono hG33
 replace hcI:=hcI.mono hG33
 replace hT:=hT.mono hG33
 replace huI:=huI.mono hG33
 replace hQu:=hQu.mono hG33
 replace hQp:=hQp.mono hG33
 replace hQ7:=hQ7.mono hG33
 refine Wp 1 [0] hs rfl ?_
 have hs:=hs.f1
 have hV:=bJ (o:=o) hf hu hk.g.z hk.c hk.n hk.v hQ1 hQ2 hoN oM (fun i hi=>Pn i (hform.2.2.subset hi))
 refine Wu 1 [] hs rfl<|oG (fun n G' H'=>∃ ks,H'=[.obj bm (.map (esT eK ks) ks.length),.blk b9 88 [.map (some bm)]]∧ks.Nodup∧ks.length≤n * u.length∧∀ p,p∈ks↔bL f nv u o cl n p) (fun _ _ _=>False) hV (show St _ _ ([_,_]++[]) _ from hs) rfl func64 rfl kR ⟨[],rfl,List.nodup_nil,by simp,fun p=>⟨fun h=>gK,fun ⟨j,_,hj,_⟩=>absurd hj (Nat.not_lt_zero j)⟩⟩ (fun _ _ _ _ _ h=>h) (fun _ _ _ _ _ h=>h) ?round ?done ?early
 case round =>
  rintro lq D rec n x v G' H2 hp ha hbd hst hpe hAg hx hv hle ⟨ks,rfl,hnd,hkl,hks⟩
  obtain ⟨state,pending,fn',tmps,params,assign,body,defers⟩:=rec
  dsimp only at hp ha hbd hst hpe hAg
  subst hst hpe
  obtain ⟨ux,rfl,hxI⟩:=hv
  subst hp ha hbd
  replace hf:=hf.mono hle
  replace hu:=hu.mono hle
  replace hoN:=hoN.mono hle
  replace hcI:=hcI.mono hle
  replace hT:=hT.mono hle
  replace huI:=huI.mono hle
  replace hQu:=hQu.mono hle
  replace hQp:=hQp.mono hle
  replace hQ7:=hQ7.mono hle
  have hxm:=List.mem_of_getElem? hx
  obtain ⟨hxl,hxr⟩:=st_in hk hxm
  obtain ⟨ks0,hks0⟩:∃ z,z=ks:=⟨_,rfl⟩
  rw [← hks0] at hks
  refine Dm.of_TX hAg rfl rfl sM rfl fun w1 hs =>Wt 2 [] hs rfl<|Cl ⟨hs,fun w2 hs=>?_⟩
  refine Wt 3 [] hs rfl<|Zy hs (Yg rfl (hQ7 0 (.slice Ae2 u.length ce2) rfl)<|Wp 3 [0] hs rfl ?_)
  have hs:=hs.f3.f3.f3.f3
  obtain ⟨Gp0,hGp⟩:=hs.name
  subst hGp
  have hf_0:=hf
  have hu_0:=hu
  have hoN_0:=hoN
  have hcI_0:=hcI
  have hT_0:=hT
  have huI_0:=huI
  have hQu_0:=hQu
  have hQp_0:=hQp
  have hQ7_0:=hQ7
  have hxI_0:=hxI
  refine Zl [2,3,9,10,35,36,37] (fun m E w=>∃ (k:Nat) (ks:List (Int×Int)) (G2:Ghost),k≤u.length∧ks.Nodup∧ks.length≤n*u.length+k∧(∀ p,p∈ks↔p∈ks0∨∃ e∈u.take k,e∉cl∧p=qJ f x e)∧Wf Gp0 G2∧m=u.length-k∧E=⟨[],[(2,Vp b2),(3,Vp b3),(9,Vp b9),(10,ux),(35,.slice Ae2 u.length ce2),(36,Vi ((u.length:Nat):Int)),(37,Vi (k:Int))]⟩∧St _ G2 (_::_::[.obj bm (.map (esT eK ks) ks.length),.blk b9 88 [.map (some bm)]]) w) rfl (⟨0,ks,_,by omega,hnd,by omega,fun p=>by simp [hks0],Wf.refl _,rfl,rfl,hs⟩) fun m E w hI=>?_
  obtain ⟨k,ks,G2,hkl2,hnd,hkl,hks1,hlg0,rfl,rfl,hs⟩:=hI
  have hf:=hf_0.mono hlg0
  have hu:=hu_0.mono hlg0
  have hoN:=hoN_0.mono hlg0
  have hcI:=hcI_0.mono hlg0
  have hT:=hT_0.mono hlg0
  have huI:=huI_0.mono hlg0
  have hQu:=hQu_0.mono hlg0
  have hQp:=hQp_0.mono hlg0
  have hQ7:=hQ7_0.mono hlg0
  have hxI:=hxI_0.mono hlg0
  refine Wt 2 [] hs rfl<|Zy hs (Yc rfl (fun h38=>?_) fun h38=>?_)
  ·
   refine Wp 8 [0] hs rfl<|Zy hs (Dl huI k underlying33 sizeOf3 rfl rfl rfl oM fun p39 hp39 =>Zy hs (Yg rfl (hp39)<|Wp 5 [0,1] hs rfl<|Zy hs (Yg rfl (hQp 1 (.slice Ac cl.length cc) rfl)<|Wp 1 [] hs rfl<|O_s (Sc (So hcI oM) hs rfl fun v5 G' H' _ hR hG44 hs=>?_))))
   obtain ⟨rfl,rfl⟩:=hR
   replace hs:=hs.n rfl
   replace hf:=hf.mono hG44
   replace hQu:=hQu.mono hG44
   replace hxI:=hxI.mono hG44
   replace hlg0:=hlg0.mono hG44
   cases h44:cl.contains (u[k]'oM)
   ·
    refine Wp 2 [0] hs rfl ?_
    obtain ⟨i,a,b,hiE,hie,hab,haN,hbN,hed⟩:=ed_at hk hU (List.getElem_mem (show k<u.length by omega))
    have hpe:Value.agg #[Vi (x[a]'oM),Vi (x[b]'oM)]=eK (qJ f x (u[k]'oM)):=by unfold qJ;rw [hed];dsimp only;rw [Ms oM,Ms oM];rfl
    refine Wu 1 [] hs rfl<|Bc [0,1,2,3,4,5,6,7,8,9,10,11,12,13,14,15,16,17,18,19,20,21] hs kR ?_
    replace hs:=hs.drew
    refine Xr [0,1,2,3] [3,0,2] hs rfl<|Xt 4 hs rfl (Yg rfl (hQu 2 (.slice Ae f.edges.length ce) rfl)<|Xr [5] [] hs rfl<|Xt 6 hs rfl (Bv hf.e i underlying40 sizeOf70 rfl rfl hie hiE fun p52 c52 hp52 hc52 hR52=>?_))
    replace hR52:c52=[Vi f.edges[i].1,Vi f.edges[i].2]:=hR52
    subst hR52
    refine Xt 7 hs rfl (Jx 0 underlying70 sizeOf3 rfl rfl rfl dC<|Xt 8 hs rfl (Yg rfl (hp52 0 (Vi (a:Int)) (by rw [hab];rfl))<|Xt 9 hs rfl (Dl hxI a underlying33 sizeOf3 rfl rfl rfl oM fun p55 hp55 =>Xt 10 hs rfl (Yg rfl (hp55)<|Xr [11,12,13] [0,2] hs rfl<|Xt 14 hs rfl (Yg rfl (hQu 2 (.slice Ae f.edges.length ce) rfl)<|Xr [15] [] hs rfl<|Xt 16 hs rfl (Bv hf.e i underlying40 sizeOf70 rfl rfl hie hiE fun p62 c62 hp62 hc62 hR62=>?_))))))
    replace hR62:c62=[Vi f.edges[i].1,Vi f.edges[i].2]:=hR62
    subst hR62
    refine Xt 17 hs rfl (Jx 1 underlying70 sizeOf3 rfl rfl rfl dC<|Xt 18 hs rfl (Yg rfl (hp62 1 (Vi (b:Int)) (by rw [hab];rfl))<|Xt 19 hs rfl (Dl hxI b underlying33 sizeOf3 rfl rfl rfl oM fun p65 hp65 =>Xt 20 hs rfl (Yg rfl (hp65)<|Xt 21 hs rfl (Co underlying70 sizeOf3 zeroValue70 rfl rfl (cs:=[_,_]) rfl ?_)))))
    rw [hpe]
    refine Xn 22 rfl (S_putT (a:=qJ f x (u[k]'oM)) hs.f2 underlying88 keyU rfl rfl rfl fun _ hs =>Xe (Zk [2,3,9,10,35,36,37] rfl ?_))
    refine Zr<|Zy hs (Ya (s:=((k+1:Nat):Int)) rfl<|Wp 1 [] hs rfl ?_)
    have hs:=hs.f3.f1.f3.f3
    refine Zx [2,3,9,10,35,36,37] rfl ⟨k+1,Qn ks (qJ f x (u[k]'oM)),_,by omega,lN hnd,by have:=addK_len (ks:=ks) (a:=qJ f x (u[k]'oM));omega,fun p=>by rw [uY,hks1,qK oM];exact ⟨fun h=>h.elim (fun h=>h.elim .inl fun h=>.inr (.inl h)) fun h=>.inr (.inr ⟨by simpa using h44,h⟩),fun h=>h.elim (fun h=>.inl (.inl h)) fun h=>h.elim (fun h=>.inl (.inr h)) fun h=>.inr h.2⟩,hlg0,rfl,rfl,hs⟩
   refine Wp 5 [0] hs rfl<|Zy hs (Ya (s:=((k+1:Nat):Int)) rfl<|Wp 1 [] hs rfl ?_)
   have hs:=hs.f3.f3.f3.f3
   refine Zx [2,3,9,10,35,36,37] rfl ⟨k+1,ks,_,by omega,hnd,by omega,fun p=>by rw [hks1,qK oM];exact ⟨fun h=>h.elim .inl fun h=>.inr (.inl h),fun h=>h.elim .inl fun h=>h.elim .inr fun h=>absurd (by simpa using h44) h.1⟩,hlg0,rfl,rfl,hs⟩
  refine Wp 4 [0] hs rfl ?_
  have hs:=hs.f3.f3.f3.f3
  obtain rfl:k=u.length:=by omega
  refine ⟨_,_,hs,.inl ⟨rfl,_,rfl,⟨ks,rfl,hnd,by rw [Nat.succ_mul];omega,fun p=>?_⟩,Hp.cons (fun _ h=>h) (Hp.cons (fun _ h=>h) (Hp.refl _))⟩⟩
  rw [hks1,hks]
  exact ned_succ hx
 case done =>
  rintro lq D o' G' H2 w' ⟨ks,rfl,hnd,hkl,hks⟩ hC hle hs
  replace hs:=hs.n rfl
  refine Wt 4 [0] hs rfl ?_
  have hs:=hs.f2
  obtain ⟨_,hGm,hm,hs⟩:=hs.fixMap (fun k _=>Ht k)
  replace hm:Vr _ bm ks:=hm
  refine Wu 3 [2] hs rfl<|O_s (Sc (mkey_ok) hs rfl fun v6 G' H' _ hR hG70 hs=>?_)
  obtain ⟨rfl,bk,rfl,hQk⟩:=hR
  replace hs:=hs.n rfl
  replace hm:=hm.mono hG70
  refine Wp 1 [] hs rfl<|O_s (Sc (srfn_ok hQk hm hnd oM) hs rfl fun v7 G' H' _ hR hG72 hs=>?_)
  obtain ⟨rfl,q,hpq,hsl,hEd⟩:=hR
  replace hs:=hs.n rfl
  refine Wp 3 [0] hs rfl<|Ah<|Hf (Ds:=[D]) (show St _ _ (Cc [D]++_) _ from hs) (vs:=[_,_]) results17 rfl (fun _ hs=>⟨⟨rfl,rfl,trivial⟩,?_⟩)
  try dsimp only [tup]
  exact ⟨_,[],hs.done,rfl,_,q,rfl,hEd,hsl,hpq.nodup_iff.2 hnd,fun p=>(hpq.mem_iff).trans (hks p)⟩
 case early =>
  intro _ _ _ _ _ _ _ h;exact h.elim
theorem needn_ok {G:Ghost} {Ap An Ae Ar:Option Addr} {cp cn ce cr:Nat} {f:Bw} {Au:Option Addr} {cu:Nat} {nv:List Int} (hf:Hb G Ap An Ae Ar cp cn ce cr f) (hu:Bt G (.slice Au nv.length cu) nv) {Ao Ac:Option Addr} {co cc:Nat} {o:List Nat} {cl:List Int} {u:List Int} (hoN:Cr G (.slice Ao o.length co) o) (hcI:Bt G (.slice Ac cl.length cc) cl) (hU:Ik f u) (hol:o.length≤12) (hcl:cl.length≤1000) (hk:eB f nv) (hT:Tab G) (hform:¬ Gu f nv u o cl) :
  Ai prog 17 [.agg #[.slice Ap f.progs.length cp,.slice An f.nodes.length cn,.slice Ae f.edges.length ce,.slice Ar f.routes.length cr,.slice Au nv.length cu],.agg #[.slice Ao o.length co,.slice Ac cl.length cc]] G [] fun r _ H'=>H'=[]∧r=.tuple #[Vn,Vi 1]:=by
 refine Ai.of_TM [(0,_),(1,_)] func17 rfl ntmps17 sM rfl fun w0 hs=>?_
 have hf0:=hf
 have hu0:=hu
 have hoN0:=hoN
 have hcI0:=hcI
 have hT0:=hT
 refine Wt 2 [] hs rfl<|O_s (Sb hs rfl fun b2 _ hs=>O_s (Sb hs rfl fun b3 _ hs=>Wp 7 [0,1] hs rfl<|O_s (Sc (Wx hf hu hk hT) hs rfl fun v1 G' H' _ hR hG15 hs=>?_)))
 obtain ⟨rfl,rfl⟩:=hR
 replace hs:=hs.n rfl
 replace hf:=hf.mono hG15
 replace hu:=hu.mono hG15
 replace hoN:=hoN.mono hG15
 replace hcI:=hcI.mono hG15
 replace hT:=hT.mono hG15
 refine Wp 14 [0,0,1,0] hs rfl<|O_s (Sc (gE hf hu hoN hcI hU hol hcl hk hT) hs rfl fun v2 G' H' _ hR hG21 hs=>?_)
 obtain ⟨rfl,bf,rfl,hbf⟩:=hR
 replace hs:=hs.n rfl
 obtain rfl:bf=false:=by cases bf;rfl;exact absurd (hbf.1 rfl) hform
 refine Wp 8 [0,0] hs rfl<|Ah<|Hf (Ds:=[]) (show St _ _ (Cc []++_) _ from hs) (vs:=[_,_]) results17 rfl (fun _ hs=>⟨⟨rfl,rfl,trivial⟩,?_⟩)
 try dsimp only [tup]
 exact ⟨_,[],hs.done,rfl,rfl⟩
theorem qM {G:Ghost} {Ap An Ae Ar:Option Addr} {cp cn ce cr:Nat} {f:Bw} {Au:Option Addr} {cu:Nat} {nv:List Int} (hf:Hb G Ap An Ae Ar cp cn ce cr f) (hu:Bt G (.slice Au nv.length cu) nv) {Ao Ac:Option Addr} {co cc:Nat} {o:List Nat} {cl:List Int} {u:List Int} (hoN:Cr G (.slice Ao o.length co) o) (hcI:Bt G (.slice Ac cl.length cc) cl) (hU:Ik f u) (hol:o.length≤12) (hcl:cl.length≤1000) (hk:eB f nv) (hT:Tab G) (h12:(Rd f nv o).length*u.length≤1000000) :
    Ai prog 17 [.agg #[.slice Ap f.progs.length cp,.slice An f.nodes.length cn,.slice Ae f.edges.length ce,.slice Ar f.routes.length cr,.slice Au nv.length cu],.agg #[.slice Ao o.length co,.slice Ac cl.length cc]] G [] fun r G' H'=>H'=[]∧∃ v q e,r=.tuple #[v,Vi e]∧kU G' v q∧(e=1↔¬ Gu f nv u o cl)∧(e=0↔Gu f nv u o cl)∧(Gu f nv u o cl→Srt mU q∧q.Nodup∧∀ p,p∈q↔bL f nv u o cl (Rd f nv o).length p):=by
  by_cases hform:Gu f nv u o cl
  · exact (qL hf hu hoN hcI hU hol hcl hk hT hform h12).mono fun r G' H' _ ⟨h0,v,q,hr,hE,h1,h2,h3⟩=>⟨h0,v,q,0,hr,hE,⟨fun h=>absurd h dC,fun h=>absurd hform h⟩,⟨fun _=>hform,fun _=>rfl⟩,fun _=>⟨h1,h2,h3⟩⟩
  · exact (needn_ok hf hu hoN hcI hU hol hcl hk hT hform).mono fun r G' H' _ ⟨h0,hr⟩=>⟨h0,_,[],1,hr,Be.nil,⟨fun _=>hform,fun _=>rfl⟩,⟨fun h=>absurd h dC,fun h=>absurd h hform⟩,fun h=>absurd h hform⟩
theorem qN {f:Bw} {nv u:List Int} {o:List Nat} (ho:o.length≤1000) (hu:u.length≤12):(Rd f nv o).length*u.length≤1000000:=by
  unfold Rd;rw [fX]
  have:=Nat.mul_le_mul (show o.length+1≤1001 by omega) hu
  omega
theorem kK {G:Ghost} {Aa Ab:Option Addr} {ca cb:Nat} {a b:List Int} (ha:Bt G (.slice Aa a.length ca) a) (hb:Bt G (.slice Ab b.length cb) b) (hal:a.length≤1000) :
  Ai prog 25 [.slice Aa a.length ca,.slice Ab b.length cb] G [] fun r _ H'=>H'=[]∧r=.bool (decide (a=b)):=by
 refine Ai.of_T [(0,_),(1,_)] func25 rfl ntmps25 sM rfl fun w0 hs=>?_
 have ha0:=ha
 have hb0:=hb
 refine Wt 11 [0] hs rfl<|Zy hs (Yc rfl (fun h10=>?_) fun h10=>?_)
 ·
  refine Wp 6 [0,0] hs rfl<|Ah<|Zz results25 rfl ?_
  exact ⟨_,[],hs.done,rfl,congrArg Value.bool (decide_eq_false fun e=>h10 (by rw [e])).symm⟩
 refine Wp 8 [0,0] hs rfl<|Zl [0,1,5] (fun m E w=>∃ (k:Nat) (G2:Ghost),k≤a.length∧(∀ j (h1:j<a.length) (h2:j<b.length),j<k→a[j]=b[j])∧m=a.length - k∧E=⟨[],[(0,.slice Aa a.length ca),(1,.slice Ab b.length cb),(5,Vi (k:Int))]⟩∧St ⟨w0,G,Bl []⟩ G2 [] w) rfl (⟨0,_,by omega,fun _ _ _ h=>absurd h (Nat.not_lt_zero _),rfl,rfl,hs⟩) fun m E w hI=>?_
 obtain ⟨k,G2,hk,hke,rfl,rfl,hs⟩:=hI
 have ha:=ha0.mono hs.le
 have hb:=hb0.mono hs.le
 refine Wt 6 [] hs rfl<|Zy hs (Yc rfl (fun h14=>?_) fun h14=>?_)
 ·
  refine Wp 6 [0] hs rfl<|Bc [0,1,2,3,4,5,6,7,8] hs kR ?_
  replace hs:=hs.drew
  refine Xr [0,1] [] hs rfl<|Xt 2 hs rfl (Dl ha k underlying33 sizeOf3 rfl rfl rfl oM fun p19 hp19 =>Xt 3 hs rfl (Yg rfl (hp19)<|Xr [4,5] [] hs rfl<|Xt 6 hs rfl (Dl hb k underlying33 sizeOf3 rfl rfl rfl oM fun p23 hp23 =>Xt 7 hs rfl (Yg rfl (hp23)<|Xt 8 hs rfl (Nr rfl rfl rfl (fun h25=>?_) (fun h25=>?_))))))
  ·
   dsimp only [Il] at h25
   refine Xe (Zk [0,1,5,25] rfl<|Wu 5 [0] hs rfl<|Ah<|Zz results25 rfl ?_)
   exact ⟨_,[],hs.done,rfl,congrArg Value.bool (decide_eq_false (ne_at (k:=k) oM oM (fun e=>h25 (by rw [e])))).symm⟩
  dsimp only [Il] at h25
  have hEQ:a[k]'oM=b[k]'oM:=by omega
  refine Xe (Zk [0,1,5,25] rfl<|Wu 4 [] hs rfl<|Zy hs (Ya (s:=((k+1:Nat):Int)) rfl<|Wp 1 [] hs rfl<|Zx [0,1,5] rfl ⟨k+1,_,by omega,fun j h1 h2 hj=>(Nat.lt_or_ge j k).elim (hke j h1 h2) (fun h=>by obtain rfl:j=k:=oM;exact hEQ),rfl,rfl,hs⟩))
 refine Wp 3 [0] hs rfl<|Wu 4 [0] hs rfl<|Ah<|Zz results25 rfl ?_
 exact ⟨_,[],hs.done,rfl,congrArg Value.bool (decide_eq_true (Ra oM fun j h1 h2=>hke j h1 h2 oM)).symm⟩
theorem rsp31_ok {G:Ghost} {Aa Ab:Option Addr} {ca cb:Nat} {a b:List (Int×Int)} (ha:kU G (.slice Aa a.length ca) a) (hb:kU G (.slice Ab b.length cb) b) (hal:a.length≤1000) :
  Ai prog 19 [.slice Aa a.length ca,.slice Ab b.length cb] G [] fun r _ H'=>H'=[]∧r=.bool (decide (a=b)):=by
 refine Ai.of_T [(0,_),(1,_)] func19 rfl ntmps19 sM rfl fun w0 hs=>?_
 have ha0:=ha
 have hb0:=hb
 refine Wt 11 [0] hs rfl<|Zy hs (Yc rfl (fun h10=>?_) fun h10=>?_)
 ·
  refine Wp 6 [0,0] hs rfl<|Ah<|Zz results19 rfl ?_
  exact ⟨_,[],hs.done,rfl,congrArg Value.bool (decide_eq_false fun e=>h10 (by rw [e])).symm⟩
 refine Wp 8 [0,0] hs rfl<|Zl [0,1,5] (fun m E w=>∃ (k:Nat) (G2:Ghost),k≤a.length∧(∀ j (h1:j<a.length) (h2:j<b.length),j<k→a[j]=b[j])∧m=a.length - k∧E=⟨[],[(0,.slice Aa a.length ca),(1,.slice Ab b.length cb),(5,Vi (k:Int))]⟩∧St ⟨w0,G,Bl []⟩ G2 [] w) rfl (⟨0,_,by omega,fun _ _ _ h=>absurd h (Nat.not_lt_zero _),rfl,rfl,hs⟩) fun m E w hI=>?_
 obtain ⟨k,G2,hk,hke,rfl,rfl,hs⟩:=hI
 have ha:=ha0.mono hs.le
 have hb:=hb0.mono hs.le
 refine Wt 6 [] hs rfl<|Zy hs (Yc rfl (fun h14=>?_) fun h14=>?_)
 ·
  refine Wp 6 [0] hs rfl<|Bc [0,1,2,3,4,5,6,7,8] hs kR ?_
  replace hs:=hs.drew
  refine Xr [0,1] [] hs rfl ?_
  have hka:k<a.length:=by omega
  have hkb:k<b.length:=by omega
  refine Xt 2 hs rfl (Bv ha k underlying40 sizeOf70 rfl rfl rfl oM fun p19 c19 hp19 hc19 hR19=>?_)
  replace hR19:c19=[Vi (a[k]'hka).1,Vi (a[k]'hka).2]:=hR19
  subst hR19
  refine Xt 3 hs rfl (Cu (vs:=[Vi (a[k]'hka).1,Vi (a[k]'hka).2]) isAgg70 sizeOf70 rfl hp19 rfl<|Xr [4,5] [] hs rfl<|Xt 6 hs rfl (Bv hb k underlying40 sizeOf70 rfl rfl rfl oM fun p23 c23 hp23 hc23 hR23=>?_))
  replace hR23:c23=[Vi (b[k]'hkb).1,Vi (b[k]'hkb).2]:=hR23
  subst hR23
  refine Xt 7 hs rfl (Cu (vs:=[Vi (b[k]'hkb).1,Vi (b[k]'hkb).2]) isAgg70 sizeOf70 rfl hp23 rfl<|Xt 8 hs rfl (rG (a:=[(a[k]'hka).1,(a[k]'hka).2]) (b:=[(b[k]'hkb).1,(b[k]'hkb).2]) underlying70 sizeOf3 isAgg3 underlying3 kR rfl rfl rfl rfl (fun h25=>?_) (fun h25=>?_)))
  ·
   refine Xe (Zk [0,1,5,25] rfl<|Wu 5 [0] hs rfl<|Ah<|Zz results19 rfl ?_)
   exact ⟨_,[],hs.done,rfl,congrArg Value.bool (decide_eq_false (ne_at (k:=k) oM oM (fun e=>h25 (by rw [e])))).symm⟩
  refine Xe (Zk [0,1,5,25] rfl<|Wu 4 [] hs rfl<|Zy hs (Ya (s:=((k+1:Nat):Int)) rfl<|Wp 1 [] hs rfl ?_))
  have hEQ:a[k]'oM=b[k]'oM:=by injection h25 with h1 h2;injection h2 with h2;exact Prod.ext h1 h2
  refine Zx [0,1,5] rfl ⟨k+1,_,by omega,fun j h1 h2 hj=>(Nat.lt_or_ge j k).elim (hke j h1 h2) (fun h=>by obtain rfl:j=k:=oM;exact hEQ),rfl,rfl,hs⟩
 refine Wp 3 [0] hs rfl<|Wu 4 [0] hs rfl<|Ah<|Zz results19 rfl ?_
 exact ⟨_,[],hs.done,rfl,congrArg Value.bool (decide_eq_true (Ra oM fun j h1 h2=>hke j h1 h2 oM)).symm⟩
theorem rsam_ok {G:Ghost} {Ao1 Ac1 Ao2 Ac2:Option Addr} {co1 cc1 co2 cc2:Nat} {o1 c1 o2 c2:List Int} (h1:Bt G (.slice Ao1 o1.length co1) o1) (h2:Bt G (.slice Ac1 c1.length cc1) c1) (h3:Bt G (.slice Ao2 o2.length co2) o2) (h4:Bt G (.slice Ac2 c2.length cc2) c2) (hl1:o1.length≤1000) (hl2:c1.length≤1000) :
  Ai prog 20 [.agg #[.slice Ao1 o1.length co1,.slice Ac1 c1.length cc1],.agg #[.slice Ao2 o2.length co2,.slice Ac2 c2.length cc2]] G [] fun r _ H'=>H'=[]∧r=.bool (decide (o1=o2) && decide (c1=c2)):=by
 refine Ai.of_T [(0,_),(1,_)] func20 rfl ntmps20 sM rfl fun w0 hs=>?_
 have h10:=h1
 have h20:=h2
 have h30:=h3
 have h40:=h4
 refine Wt 2 [] hs rfl<|O_s (Sb hs rfl fun b2 _ hs=>O_s (Sb hs rfl fun b3 _ hs=>Wp 8 [0,0,1,0,0] hs rfl<|O_s (Sc (kK h1 h3 hl1) hs rfl fun v1 G' H' _ hR hG9 hs=>?_)))
 obtain ⟨rfl,rfl⟩:=hR
 replace hs:=hs.n rfl
 replace h2:=h2.mono hG9
 replace h4:=h4.mono hG9
 cases h9:decide (o1=o2)
 ·
  refine Wp 9 [0] hs rfl<|Ah<|Zz results20 rfl ?_
  exact ⟨_,[],hs.done,rfl,by simp [*]⟩
 refine Wp 5 [1,1,1,0] hs rfl<|Ch 10 rfl rfl (Sc (kK h2 h4 hl2) hs rfl fun v2 G' H' _ hR hG15 hs=>?_)
 obtain ⟨rfl,rfl⟩:=hR
 replace hs:=hs.n rfl
 cases h15:decide (c1=c2)
 ·
  refine Wp 3 [0] hs rfl<|Ah<|Zz results20 rfl ?_
  exact ⟨_,[],hs.done,rfl,by simp [*]⟩
 refine Wp 3 [0] hs rfl<|Ah<|Zz results20 rfl ?_
 exact ⟨_,[],hs.done,rfl,by simp [*]⟩

theorem PL45:places prog 45=some [(0,4),(4,1)]:=by kernel_rfl
theorem TI64:TI prog 64 (Vn) 1 24:=TI.of kR
def Lg (f:Bw) (nw:List UInt8):Nat→List Int×Nat
  | 0=>([],0)
  | i+1=>((Lg f nw i).1++[nvV f nw (Lg f nw i).2 i],if nvV f nw (Lg f nw i).2 i=((f.nodes[i]?).map (·.runs)).getD 0 then (Lg f nw i).2 else (Lg f nw i).2+1)
where
  nvV (f:Bw) (nw:List UInt8) (ch i:Nat):Int:=if i<nw.length∧ch<4 then (((nw.getD i 0).toNat % ((f.nodes[i]?).map (·.vers.length)).getD 0:Nat):Int) else ((f.nodes[i]?).map (·.runs)).getD 0
def tQ (f:Bw) (nw:List UInt8):List Int:=(Lg f nw f.nodes.length).1
theorem Po {f:Bw} {nw:List UInt8}:∀ i,(Lg f nw i).1.length=i
  | 0=>rfl
  | i+1=>by rw [Lg,List.length_append,Po i];rfl
def sfB (sf:List Nat) (a b:Nat):Bool:=decide (a=b) || (decide (a<sf.length) && decide (sf.getD a 0 / 2 ^ b % 2=1))
def sfR (sf:List Nat) (np a:Nat):List Bool:=(List.range np).map (sfB sf a)
def sfM (sf:List Nat) (np:Nat):List (List Bool):=(List.range np).map (sfR sf np)
theorem sfM_ok {f:Bw} {sf:List Nat}:SOk f (sfM sf f.progs.length) where
  n:=by unfold sfM;simp
  r r hr:=by
    obtain ⟨a,_,rfl⟩:=List.mem_map.1 hr
    unfold sfR;simp
def Wc (G:Ghost) (css:List (List Value)) (l:List (List Bool)):Prop:=Cj (nE G) css l∧∀ c∈css,c.length=1
theorem Wc.mono {G G':Ghost} (h:G.le G') {css:List (List Value)} {l:List (List Bool)} (hl:Wc G css l):Wc G' css l:=⟨Cj.mono (fun _ _ h2=>nE.mono h h2) hl.1,hl.2⟩
theorem Wc.snoc {G:Ghost} {css:List (List Value)} {l:List (List Bool)} {c:List Value} {a:(List Bool)} (hl:Wc G css l) (h:nE G c a) (hk:c.length=1):Wc G (css++[c]) (l++[a]) :=
  ⟨Cj.snoc hl.1 h,fun d hd=>by rcases List.mem_append.1 hd with hd | hd;exact hl.2 d hd;rw [List.mem_singleton.1 hd];exact hk⟩
theorem Wc.fin {G:Ghost} {css:List (List Value)} {l:List (List Bool)} {v:Value} {n:Nat} (hl:Wc G css l) (h:Sl G v 1 n css.flatten) (hn:n=l.length):gJ G v l:=Be.ofSl h rfl hn hl.1 hl.2
theorem Wc.len {G:Ghost} {css:List (List Value)} {l:List (List Bool)} (hl:Wc G css l):css.length=l.length:=Cj.length hl.1
theorem nvS_T {f:Bw} {nw:List UInt8} {i:Nat} (hi:i<nw.length) (hc:(Lg f nw i).2<4) (hk:i<f.nodes.length):Lg.nvV f nw (Lg f nw i).2 i=((nw[i].toNat % f.nodes[i].vers.length:Nat):Int):=by
  unfold Lg.nvV;rw [if_pos ⟨hi,hc⟩,List.getD_eq_getElem?_getD,List.getElem?_eq_getElem hi,List.getElem?_eq_getElem hk];rfl
theorem eC {f:Bw} {nw:List UInt8} {i:Nat} (hc:¬ (i<nw.length∧(Lg f nw i).2<4)) (hk:i<f.nodes.length):Lg.nvV f nw (Lg f nw i).2 i=f.nodes[i].runs:=by
  unfold Lg.nvV;rw [if_neg hc,List.getElem?_eq_getElem hk];rfl
theorem Hi {f:Bw} {nw:List UInt8} {i:Nat} {v:Int} (hk:i<f.nodes.length) (hv:Lg.nvV f nw (Lg f nw i).2 i=v):(Lg f nw (i+1)).1=(Lg f nw i).1++[v]∧(Lg f nw (i+1)).2=if v=f.nodes[i].runs then (Lg f nw i).2 else (Lg f nw i).2+1:=by
  rw [Lg,hv,List.getElem?_eq_getElem hk];exact ⟨rfl,rfl⟩
theorem Ov {f:Bw} {nw:List UInt8}:∀ i,i≤f.nodes.length→(Lg f nw i).2≤4
  | 0,_=>Nat.zero_le _
  | i+1,h=>by
    have h4:=Ov (f:=f) (nw:=nw) i oM
    by_cases hc:i<nw.length∧(Lg f nw i).2<4
    · rw [(Hi oM rfl).2];split<;>omega
    · rw [(Hi oM (eC hc oM)).2,if_pos rfl];exact h4
theorem nG {f:Bw} {nw:List UInt8}:∀ n i,i<n→n≤f.nodes.length→(Lg f nw n).1.getD i 0=Lg.nvV f nw (Lg f nw i).2 i
  | n+1,i,h,hn=>by
    rw [(Hi oM rfl).1,List.getD_eq_getElem?_getD]
    rcases Nat.lt_or_ge i n with h1 | h1
    · rw [List.getElem?_append_left (by rw [Po];exact h1),← List.getD_eq_getElem?_getD];exact nG n i h1 oM
    · obtain rfl:i=n:=by omega
      rw [List.getElem?_append_right (by rw [Po];exact Nat.le_refl _),Po,Nat.sub_self];rfl
theorem qO {f:Bw} {nw:List UInt8}:(tQ f nw).length=f.nodes.length:=Po _
theorem nvM_up {f:Bw} {nw:List UInt8}:∀ n,n≤f.nodes.length→((List.range n).filter (gI f (tQ f nw))).length=(Lg f nw n).2
  | 0,_=>rfl
  | n+1,h=>by
    have h1:(tQ f nw).getD n 0=Lg.nvV f nw (Lg f nw n).2 n:=nG _ n oM (Nat.le_refl _)
    rw [Uu,List.length_append,nvM_up n oM,(Hi oM rfl).2]
    have h2:gI f (tQ f nw) n=decide (¬ Lg.nvV f nw (Lg f nw n).2 n=f.nodes[n].runs):=by
      unfold gI;rw [h1,List.getD_eq_getElem?_getD,List.getElem?_map,List.getElem?_eq_getElem oM];rfl
    rw [h2]
    by_cases h3:Lg.nvV f nw (Lg f nw n).2 n=f.nodes[n].runs
    · rw [if_pos h3,h3];simp
    · rw [if_neg h3];simp [h3]
theorem nvM_ok {x:Us} (hx:x.ok) {nw:List UInt8}:eB (Ga x) (tQ (Ga x) nw) where
  g:=kE hx
  c:=fV hx
  n:=qO
  v i h:=by
    obtain ⟨hc0,hc1,hcn,hce,hcr⟩:=On (fV hx)
    obtain ⟨h1,h2,h3,h4,h5⟩:=Lx (List.all_eq_true.1 hcn _ (List.getElem_mem h))
    have e:(tQ (Ga x) nw).getD i 0=Lg.nvV (Ga x) nw (Lg (Ga x) nw i).2 i:=nG _ i h (Nat.le_refl _)
    rw [e]
    by_cases hc:i<nw.length∧(Lg (Ga x) nw i).2<4
    · rw [nvS_T hc.1 hc.2 h]
      have:0<(Ga x).nodes[i].vers.length:=by omega
      have:=Nat.mod_lt nw[i].toNat this
      omega
    · rw [eC hc h];exact h4
  u:=by
    unfold Ee;rw [nvM_up _ (Nat.le_refl _)];exact Nat.le_trans (Ov _ (Nat.le_refl _)) dC
  r:=zJ hx
theorem shr16 (a k:Nat) (hk:k<16):(a:Int).fdiv (2 ^ (min ((k:Int)).toNat IntKind.u16.bits))=((a / 2 ^ k:Nat):Int):=by
  have h1:min ((k:Int)).toNat IntKind.u16.bits=k:=by show min ((k:Int)).toNat 16=k;omega
  rw [h1,Int.fdiv_eq_ediv_of_nonneg _ (Int.pow_nonneg dC)]
  push_cast;rfl
theorem and1_u16 (a:Nat):Px .and .u16 (a:Int) 1=((a % 2:Nat):Int):=by
  show IntKind.u16.wrap ((BitVec.ofInt 16 (a:Int) &&& BitVec.ofInt 16 (1:Int)).toNat:Int)=_
  rw [BitVec.toNat_and,show (BitVec.ofInt 16 (a:Int)).toNat=a % 65536 from by rw [BitVec.toNat_ofInt];norm_cast,show (BitVec.ofInt 16 (1:Int)).toNat=1 from rfl,Nat.and_one_is_mod,iJ]
  omega
def U16s (G:Ghost) (v:Value) (l:List Nat):Prop:=Sl G v 1 l.length (l.map fun x:Nat=>.int .u16 (x:Int))
theorem U16s.mono {G G':Ghost} (h:G.le G') {v:Value} {l:List Nat} (hl:U16s G v l):U16s G' v l:=Sl.mono h hl
theorem u16_at {l:List Nat} {i:Nat} (h:i<l.length):(l.map fun x:Nat=>Value.int .u16 (x:Int))[i]?=some (.int .u16 ((l.getD i 0:Nat):Int)):=by
  rw [List.getElem?_map,List.getElem?_eq_getElem h,List.getD_eq_getElem?_getD,List.getElem?_eq_getElem h];rfl
theorem bools_of {G:Ghost} {v:Value} {n:Nat} {xs:List Value} {l:List Bool} (h:Sl G v 1 n xs) (hn:n=l.length) (hx:xs=l.map Bb):Hq G v l:=by
  subst hn;subst hx;exact h
theorem rmd1_ok {G:Ghost} {sz p0 p1 p2 p3 n0 n1 n2 n3 n4:UInt8} {ed r0 r1 r2:Nat} {f:Bw} {Aw Aq:Option Addr} {cw cq:Nat} {nw:List UInt8} {sf:List Nat} {nv:List Int} {s:List (List Bool)} (hfe:f=Ga (bD sz p0 p1 p2 p3 n0 n1 n2 n3 n4 ed r0 r1 r2)) (hnv:nv=tQ f nw) (hse:s=sfM sf f.progs.length) (hnw:Cv G (.slice Aw nw.length cw) nw) (hsq:U16s G (.slice Aq sf.length cq) sf) (he:ed<4294967296) (h0:r0<65536) (h1:r1<65536) (h2:r2<65536) :
  Ai prog 11 [.agg #[.int .u8 (sz.toNat:Int),.int .u8 (p0.toNat:Int),.int .u8 (p1.toNat:Int),.int .u8 (p2.toNat:Int),.int .u8 (p3.toNat:Int),.int .u8 (n0.toNat:Int),.int .u8 (n1.toNat:Int),.int .u8 (n2.toNat:Int),.int .u8 (n3.toNat:Int),.int .u8 (n4.toNat:Int),.int .u32 (ed:Int),.int .u16 (r0:Int),.int .u16 (r1:Int),.int .u16 (r2:Int),.slice Aw nw.length cw,.slice Aq sf.length cq]] G [] fun r G' H'=>H'=[]∧∃ Ap An Ae Ar cp cn ce cr Au cu vs,r=.tuple #[.agg #[.slice Ap f.progs.length cp,.slice An f.nodes.length cn,.slice Ae f.edges.length ce,.slice Ar f.routes.length cr,.slice Au nv.length cu],vs]∧Hb G' Ap An Ae Ar cp cn ce cr f∧Bt G' (.slice Au nv.length cu) nv∧gJ G' vs s:=by
 subst hnv
 subst hse
 have hok:=fW (sz:=sz) (p0:=p0) (p1:=p1) (p2:=p2) (p3:=p3) (n0:=n0) (n1:=n1) (n2:=n2) (n3:=n3) (n4:=n4) (ed:=ed) (r0:=r0) (r1:=r1) (r2:=r2) h0 h1 h2
 have hpc:=Th sz.toNat
 have hnc:=Kw sz.toNat
 have hfp:f.progs.length=Jv sz.toNat:=by rw [hfe,fT hok];rfl
 have hfn:f.nodes.length=Ed sz.toNat:=by rw [hfe,fS hok];rfl
 have hvn:∀ i,(h:i<f.nodes.length)→0<f.nodes[i].vers.length∧f.nodes[i].vers.length≤1000:=by subst hfe;intro i h;obtain ⟨hc0,hc1,hcn,hce,hcr⟩:=On (fV hok);obtain ⟨k1,k2,k3,k4,k5⟩:=Lx (List.all_eq_true.1 hcn _ (List.getElem_mem h));exact ⟨by omega,(kE hok).z.v _ (List.getElem_mem h)⟩
 refine Ai.of_T [(0,_)] func11 rfl ntmps11 sM rfl fun w0 hs=>?_
 have hnw0:=hnw
 have hsq0:=hsq
 refine Wt 2 [] hs rfl<|O_s (Sb hs rfl fun b1 _ hs=>O_s (Sa hs zeroValue45 rfl fun b2 _ hs=>Wp 6 [0,0,1] hs rfl<|O_s (Sc (rmad_ok he h0 h1 h2) hs rfl fun v1 G' H' _ hR hG15 hs=>?_)))
 obtain ⟨rfl,hF⟩:=hR
 replace hs:=hs.n rfl
 replace hnw:=hnw.mono hG15
 replace hsq:=hsq.mono hG15
 rw [← hfe] at hF
 obtain ⟨Ap,An,Ae,Ar,cp,cn,ce,cr,rfl,hf⟩:=hF
 refine Zy hs (Ba zeroValue45 rfl PL45 rfl (cs:=[_,_,_,_,_]) rfl<|O_s (Sa hs zeroValue45 rfl fun b4 _ hs=>O_n (Es hs sizeOf45 rfl rfl (vs:=[_,_,_,_,_]) rfl (rfl) sM (cs':=[_,_,_,_,_]) rfl fun _ hs =>Wp 10 [0,0,0] hs rfl ?_)))
 have hs:=hs.nilRow 3 1
 have hs:=hs.f2.f3.f3.f3
 obtain ⟨Gp0,hGp⟩:=hs.name
 subst hGp
 have hf_0:=hf
 refine Zl [1,2,4,5,6] (fun m E w=>∃ (i ch:Nat) (vu:Value) (G2:Ghost),i≤f.nodes.length∧(Lg f nw i).2=ch∧ch≤4∧Wf Gp0 G2∧m=f.nodes.length-i∧E=⟨[],[(1,Vp b1),(2,Vp b2),(4,Vp b4),(5,Vi (ch:Int)),(6,Vi (i:Int))]⟩∧St ⟨w0,G,Bl []⟩ G2 [.row 3 1 vu i ((Lg f nw i).1.map (.int .i64)),.blk b4 45 [.slice Ap f.progs.length cp,.slice An f.nodes.length cn,.slice Ae f.edges.length ce,.slice Ar f.routes.length cr,vu],.blk b1 32 [.int .u8 (sz.toNat:Int),.int .u8 (p0.toNat:Int),.int .u8 (p1.toNat:Int),.int .u8 (p2.toNat:Int),.int .u8 (p3.toNat:Int),.int .u8 (n0.toNat:Int),.int .u8 (n1.toNat:Int),.int .u8 (n2.toNat:Int),.int .u8 (n3.toNat:Int),.int .u8 (n4.toNat:Int),.int .u32 (ed:Int),.int .u16 (r0:Int),.int .u16 (r1:Int),.int .u16 (r2:Int),.slice Aw nw.length cw,.slice Aq sf.length cq],.blk b2 45 [Vn,Vn,Vn,Vn,Vn]] w) rfl (⟨0,0,_,_,by omega,rfl,by omega,Wf.refl _,rfl,rfl,hs⟩) fun m E w hI=>?_
 obtain ⟨i,ch,vu,G2,hi,hch,hch4,hlg0,rfl,rfl,hs⟩:=hI
 have hf:=hf_0.mono hlg0
 have hnw:=hnw0.mono hs.le
 have hsq:=hsq0.mono hs.le
 refine Wt 8 [0,1,1] hs rfl<|Zy hs (Yc rfl (fun h22=>?_) fun h22=>?_)
 ·
  refine Wp 11 [0,0,1,1] hs rfl<|Zy hs (Bv hf.n (i) underlying39 sizeOf76 rfl rfl rfl oM fun p29 c29 hp29 hc29 hR29=>?_)
  obtain ⟨u29,rfl,hv29⟩:=hR29
  obtain ⟨Av29,cv29,rfl,_⟩:=id hv29
  refine Zy hs (Cu (vs:=[.slice Av29 f.nodes[i].vers.length cv29,Vi f.nodes[i].runs,Vi f.nodes[i].claims,.bool f.nodes[i].up]) isAgg76 sizeOf76 rfl hp29 rfl<|O_s (Sa hs zeroValue76 rfl fun b7 _ hs=>O_n (Es hs sizeOf76 rfl rfl (vs:=[_,_,_,_]) rfl (rfl) sM (cs':=[_,_,_,_]) rfl fun _ hs =>Wp 14 [0,1,0,0,14,3] hs rfl<|Zy hs (Yc rfl (fun h37=>?_) fun h37=>?_))))
  ·
   refine Wp 2 [] hs rfl<|Zg hs rfl (Yc rfl (fun h40=>?_) fun h40=>?_)
   ·
    refine Wp 3 [8,1,2,4,5,6,7,8,41] hs rfl<|Bc [0,1,2,3,4,5,6,7,8,9,10] hs kR ?_
    replace hs:=hs.drew
    refine Xr [0,1,2] [14,3] hs rfl<|Xt 3 hs rfl (eG hnw i underlying29 sizeOf5 rfl rfl rfl oM fun p45 hp45 =>Xt 4 hs rfl (Yg rfl (hp45)<|Xt 5 hs rfl (Dj underlying5 underlying3 (c:=((nw[i]'oM).toNat:Int)) rfl (by have:=(nw[i]'oM).toNat_lt;rw [IntKind.wrap_i64];omega)<|Xr [6,7,8] [0,0] hs rfl<|Xt 9 hs rfl (Er (c:=(((nw[i]'oM).toNat % f.nodes[i].vers.length:Nat):Int)) rfl rfl oM (by have:=hvn i oM;omega) (Int.natCast_emod _ _).symm<|Xr [10] [] hs rfl<|Xe (Zk [1,2,4,5,6,7,8] rfl<|Wu 6 [1,0] hs rfl<|Zy hs (Yc rfl (fun h55=>?_) fun h55=>?_))))))
    ·
     refine Wp 4 [0] hs rfl<|Zy hs (Ya (s:=((ch+1:Nat):Int)) rfl<|Wp 6 [0,4,2] hs rfl<|O_s (Ca hs underlying33 sizeOf3 zeroValue3 rfl rfl dC dC rfl (cs:=[_]) rfl rfl fun v2 _ hs _=>?_))
     obtain ⟨_,hG61,hl61,hs⟩:=hs.fixRow noM
     replace hlg0:=hlg0.mono hG61
     refine O_s (Bf hs.f1 underlying33 Lb rfl dC rfl rfl (hl61) (Fj rfl) oM Z44 fun v3 _ hs =>Wp 1 [4] hs rfl<|O_n (Sd hs.f2 rfl (hs.f2.rowOne 1 rfl) fun _ hs=>Wp 3 [0] hs rfl<|Zy hs (Ya (s:=((i+1:Nat):Int)) rfl<|Wp 1 [] hs rfl ?_)))
     have hs:=hs.f4.f4.f2.f3
     have hnx:=Hi (f:=f) (nw:=nw) (i:=i) oM (nvS_T oM oM oM)
     rw [if_neg oM,hch] at hnx
     refine Zx [1,2,4,5,6] rfl ⟨i+1,_,_,_,by omega,hnx.2,by have:=Ov (f:=f) (nw:=nw) (i+1) oM;rw [hnx.2] at this;exact this,hlg0,rfl,rfl,Bz (hs.weak hs.le (gLr _) (lSa [_,_,_,_] _)) Z35⟩
    refine Wp 7 [0,4,2] hs rfl<|O_s (Ca hs underlying33 sizeOf3 zeroValue3 rfl rfl dC dC rfl (cs:=[_]) rfl rfl fun v4 _ hs _=>?_)
    obtain ⟨_,hG61,hl61,hs⟩:=hs.fixRow noM
    replace hlg0:=hlg0.mono hG61
    refine O_s (Bf hs.f1 underlying33 Lb rfl dC rfl rfl (hl61) (Fj rfl) oM Z44 fun v5 _ hs =>Wp 1 [4] hs rfl<|O_n (Sd hs.f2 rfl (hs.f2.rowOne 1 rfl) fun _ hs=>Wp 3 [0] hs rfl<|Zy hs (Ya (s:=((i+1:Nat):Int)) rfl<|Wp 1 [] hs rfl ?_)))
    have hs:=hs.f4.f4.f2.f3
    have hnx:=Hi (f:=f) (nw:=nw) (i:=i) oM (nvS_T oM oM oM)
    rw [if_pos oM,hch] at hnx
    refine Zx [1,2,4,5,6] rfl ⟨i+1,_,_,_,by omega,hnx.2,by have:=Ov (f:=f) (nw:=nw) (i+1) oM;rw [hnx.2] at this;exact this,hlg0,rfl,rfl,Bz (hs.weak hs.le (gLr _) (lSa [_,_,_,_] _)) Z35⟩
   refine Wp 10 [8,1,2,4,5,6,7,8,41,1,0] hs rfl<|Zy hs (Yc rfl (fun h55=>?_) fun h55=>?_)
   ·
    refine Wp 4 [0] hs rfl<|Zy hs (Ya (s:=((ch+1:Nat):Int)) rfl<|Wp 6 [0,4,2] hs rfl<|O_s (Ca hs underlying33 sizeOf3 zeroValue3 rfl rfl dC dC rfl (cs:=[_]) rfl rfl fun v6 _ hs _=>?_))
    obtain ⟨_,hG61,hl61,hs⟩:=hs.fixRow noM
    replace hlg0:=hlg0.mono hG61
    refine O_s (Bf hs.f1 underlying33 Lb rfl dC rfl rfl (hl61) (Fj rfl) oM Z44 fun v7 _ hs =>Wp 1 [4] hs rfl<|O_n (Sd hs.f2 rfl (hs.f2.rowOne 1 rfl) fun _ hs=>Wp 3 [0] hs rfl<|Zy hs (Ya (s:=((i+1:Nat):Int)) rfl<|Wp 1 [] hs rfl ?_)))
    have hs:=hs.f4.f4.f2.f3
    have hnx:=Hi (f:=f) (nw:=nw) (i:=i) oM (eC oM oM)
    rw [if_neg oM,hch] at hnx
    refine Zx [1,2,4,5,6] rfl ⟨i+1,_,_,_,by omega,hnx.2,by have:=Ov (f:=f) (nw:=nw) (i+1) oM;rw [hnx.2] at this;exact this,hlg0,rfl,rfl,Bz (hs.weak hs.le (gLr _) (lSa [_,_,_,_] _)) Z35⟩
   refine Wp 7 [0,4,2] hs rfl<|O_s (Ca hs underlying33 sizeOf3 zeroValue3 rfl rfl dC dC rfl (cs:=[_]) rfl rfl fun v8 _ hs _=>?_)
   obtain ⟨_,hG61,hl61,hs⟩:=hs.fixRow noM
   replace hlg0:=hlg0.mono hG61
   refine O_s (Bf hs.f1 underlying33 Lb rfl dC rfl rfl (hl61) (Fj rfl) oM Z44 fun v9 _ hs =>Wp 1 [4] hs rfl<|O_n (Sd hs.f2 rfl (hs.f2.rowOne 1 rfl) fun _ hs=>Wp 3 [0] hs rfl<|Zy hs (Ya (s:=((i+1:Nat):Int)) rfl<|Wp 1 [] hs rfl ?_)))
   have hs:=hs.f4.f4.f2.f3
   have hnx:=Hi (f:=f) (nw:=nw) (i:=i) oM (eC oM oM)
   rw [if_pos oM,hch] at hnx
   refine Zx [1,2,4,5,6] rfl ⟨i+1,_,_,_,by omega,hnx.2,by have:=Ov (f:=f) (nw:=nw) (i+1) oM;rw [hnx.2] at this;exact this,hlg0,rfl,rfl,Bz (hs.weak hs.le (gLr _) (lSa [_,_,_,_] _)) Z35⟩
  refine Wp 13 [8,1,2,4,5,6,7,8,41,1,0] hs rfl<|Zy hs (Yc rfl (fun h55=>?_) fun h55=>?_)
  ·
   refine Wp 4 [0] hs rfl<|Zy hs (Ya (s:=((ch+1:Nat):Int)) rfl<|Wp 6 [0,4,2] hs rfl<|O_s (Ca hs underlying33 sizeOf3 zeroValue3 rfl rfl dC dC rfl (cs:=[_]) rfl rfl fun v10 _ hs _=>?_))
   obtain ⟨_,hG61,hl61,hs⟩:=hs.fixRow noM
   replace hlg0:=hlg0.mono hG61
   refine O_s (Bf hs.f1 underlying33 Lb rfl dC rfl rfl (hl61) (Fj rfl) oM Z44 fun v11 _ hs =>Wp 1 [4] hs rfl<|O_n (Sd hs.f2 rfl (hs.f2.rowOne 1 rfl) fun _ hs=>Wp 3 [0] hs rfl<|Zy hs (Ya (s:=((i+1:Nat):Int)) rfl<|Wp 1 [] hs rfl ?_)))
   have hs:=hs.f4.f4.f2.f3
   have hnx:=Hi (f:=f) (nw:=nw) (i:=i) oM (eC oM oM)
   rw [if_neg oM,hch] at hnx
   refine Zx [1,2,4,5,6] rfl ⟨i+1,_,_,_,by omega,hnx.2,by have:=Ov (f:=f) (nw:=nw) (i+1) oM;rw [hnx.2] at this;exact this,hlg0,rfl,rfl,Bz (hs.weak hs.le (gLr _) (lSa [_,_,_,_] _)) Z35⟩
  refine Wp 7 [0,4,2] hs rfl<|O_s (Ca hs underlying33 sizeOf3 zeroValue3 rfl rfl dC dC rfl (cs:=[_]) rfl rfl fun v12 _ hs _=>?_)
  obtain ⟨_,hG61,hl61,hs⟩:=hs.fixRow noM
  replace hlg0:=hlg0.mono hG61
  refine O_s (Bf hs.f1 underlying33 Lb rfl dC rfl rfl (hl61) (Fj rfl) oM Z44 fun v13 _ hs =>Wp 1 [4] hs rfl<|O_n (Sd hs.f2 rfl (hs.f2.rowOne 1 rfl) fun _ hs=>Wp 3 [0] hs rfl<|Zy hs (Ya (s:=((i+1:Nat):Int)) rfl<|Wp 1 [] hs rfl ?_)))
  have hs:=hs.f4.f4.f2.f3
  have hnx:=Hi (f:=f) (nw:=nw) (i:=i) oM (eC oM oM)
  rw [if_pos oM,hch] at hnx
  refine Zx [1,2,4,5,6] rfl ⟨i+1,_,_,_,by omega,hnx.2,by have:=Ov (f:=f) (nw:=nw) (i+1) oM;rw [hnx.2] at this;exact this,hlg0,rfl,rfl,Bz (hs.weak hs.le (gLr _) (lSa [_,_,_,_] _)) Z35⟩
 refine Wp 3 [0] hs rfl ?_
 have hsN:=hs.fixRow noM
 clear hs
 obtain ⟨_,hG_hvu,hvu,hs⟩:=hsN
 replace hnw:=hnw.mono hG_hvu
 replace hsq:=hsq.mono hG_hvu
 replace hf:=hf.mono hG_hvu
 replace hlg0:=hlg0.mono hG_hvu
 have hnvI:Bt _ _ (tQ f nw):=Ww hvu (by rw [qO];omega) (by rw [show tQ f nw=(Lg f nw i).1 from by unfold tQ;congr 2;omega])
 clear hvu
 obtain ⟨Au,cu,rfl,_⟩:=id hnvI
 refine Wu 2 [] hs rfl<|O_s (Ca hs underlying47 sizeOf64 zeroValue64 rfl rfl dC dC rfl (cs:=[]) rfl rfl fun v14 _ hs shl=>?_)
 obtain ⟨bl64,rfl⟩:=shl
 refine Wp 7 [0,0] hs rfl ?_
 have hs:=hs.f3.f3.f3.f3
 obtain ⟨Gp1,hGp⟩:=hs.name
 subst hGp
 have hf_1:=hf
 have hnvI_1:=hnvI
 have hlg0_1:=hlg0
 refine Zl [1,2,4,9,10] (fun m E w=>∃ (a:Nat) (v9:Value) (css:List (List Value)) (G2:Ghost),a≤f.progs.length∧Wc G2 css ((List.range a).map (sfR sf f.progs.length))∧Wf Gp1 G2∧m=f.progs.length-a∧E=⟨[],[(1,Vp b1),(2,Vp b2),(4,Vp b4),(9,v9),(10,Vi (a:Int))]⟩∧St ⟨w0,G,Bl []⟩ G2 [.row 64 1 v9 a css.flatten,.blk b4 45 [.slice Ap f.progs.length cp,.slice An f.nodes.length cn,.slice Ae f.edges.length ce,.slice Ar f.routes.length cr,.slice Au (tQ f nw).length cu],.blk b1 32 [.int .u8 (sz.toNat:Int),.int .u8 (p0.toNat:Int),.int .u8 (p1.toNat:Int),.int .u8 (p2.toNat:Int),.int .u8 (p3.toNat:Int),.int .u8 (n0.toNat:Int),.int .u8 (n1.toNat:Int),.int .u8 (n2.toNat:Int),.int .u8 (n3.toNat:Int),.int .u8 (n4.toNat:Int),.int .u32 (ed:Int),.int .u16 (r0:Int),.int .u16 (r1:Int),.int .u16 (r2:Int),.slice Aw nw.length cw,.slice Aq sf.length cq],.blk b2 45 [Vn,Vn,Vn,Vn,Vn]] w) rfl (⟨0,_,[],_,by omega,⟨trivial,by simp⟩,Wf.refl _,rfl,rfl,hs⟩) fun m E w hI=>?_
 obtain ⟨a,v9,css,G2,ha,hA,hlg1,rfl,rfl,hs⟩:=hI
 have hf:=hf_1.mono hlg1
 have hnvI:=hnvI_1.mono hlg1
 have hlg0:=hlg0_1.mono hlg1
 have hnw:=hnw0.mono hs.le
 have hsq:=hsq0.mono hs.le
 refine Wt 8 [0,0,1] hs rfl<|Zy hs (Yc rfl (fun h70=>?_) fun h70=>?_)
 ·
  refine Wp 7 [0] hs rfl<|O_s (Ca hs underlying64 sizeOf4 zeroValue4 rfl rfl dC dC rfl (cs:=[]) rfl rfl fun v15 _ hs shl=>?_)
  obtain ⟨bl73,rfl⟩:=shl
  refine Wp 7 [0,0] hs rfl ?_
  have hs:=hs.f4.f4.f4.f4.f4
  obtain ⟨Gp2,hGp⟩:=hs.name
  subst hGp
  have hf_2:=hf
  have hnvI_2:=hnvI
  have hlg0_2:=hlg0
  have hlg1_2:=hlg1
  refine Zl [1,2,4,9,10,11,12] (fun m E w=>∃ (b:Nat) (v11 v9:Value) (G2:Ghost),b≤f.progs.length∧Wc G2 css ((List.range a).map (sfR sf f.progs.length))∧Wf Gp2 G2∧m=f.progs.length-b∧E=⟨[],[(1,Vp b1),(2,Vp b2),(4,Vp b4),(9,v9),(10,Vi (a:Int)),(11,v11),(12,Vi (b:Int))]⟩∧St ⟨w0,G,Bl []⟩ G2 [.row 4 1 v11 b (((List.range b).map (sfB sf a)).map Bb),.row 64 1 v9 a css.flatten,.blk b4 45 [.slice Ap f.progs.length cp,.slice An f.nodes.length cn,.slice Ae f.edges.length ce,.slice Ar f.routes.length cr,.slice Au (tQ f nw).length cu],.blk b1 32 [.int .u8 (sz.toNat:Int),.int .u8 (p0.toNat:Int),.int .u8 (p1.toNat:Int),.int .u8 (p2.toNat:Int),.int .u8 (p3.toNat:Int),.int .u8 (n0.toNat:Int),.int .u8 (n1.toNat:Int),.int .u8 (n2.toNat:Int),.int .u8 (n3.toNat:Int),.int .u8 (n4.toNat:Int),.int .u32 (ed:Int),.int .u16 (r0:Int),.int .u16 (r1:Int),.int .u16 (r2:Int),.slice Aw nw.length cw,.slice Aq sf.length cq],.blk b2 45 [Vn,Vn,Vn,Vn,Vn]] w) rfl (⟨0,_,v9,_,by omega,hA,Wf.refl _,rfl,rfl,hs⟩) fun m E w hI=>?_
  obtain ⟨b,v11,v9,G2,hb,hA,hlg2,rfl,rfl,hs⟩:=hI
  have hf:=hf_2.mono hlg2
  have hnvI:=hnvI_2.mono hlg2
  have hlg0:=hlg0_2.mono hlg2
  have hlg1:=hlg1_2.mono hlg2
  have hnw:=hnw0.mono hs.le
  have hsq:=hsq0.mono hs.le
  refine Wt 8 [0,0,2] hs rfl<|Zy hs (Yc rfl (fun h79=>?_) fun h79=>?_)
  ·
   refine Wp 9 [0] hs rfl<|Zy hs (Yc rfl (fun h85=>?_) fun h85=>?_)
   ·
    refine Wp 7 [] hs rfl<|Ec 92 rfl rfl<|Ec 92 rfl rfl<|Ec 92 rfl rfl<|Ec 92 rfl rfl<|Ec 92 rfl rfl<|Ec 92 rfl rfl<|Ec 92 rfl rfl<|Ec 92 rfl rfl<|Ec 92 rfl rfl<|Wp 2 [] hs rfl<|O_s (Ca hs underlying64 sizeOf4 zeroValue4 rfl rfl dC dC rfl (cs:=[_]) rfl rfl fun v16 _ hs _=>?_)
    obtain ⟨_,hG104,hl104,hs⟩:=hs.fixRow noM
    replace hA:=hA.mono hG104
    replace hlg2:=hlg2.mono hG104
    refine O_s (Bf hs underlying64 oN rfl dC rfl rfl (hl104) (Fj rfl) oM Nj fun v17 _ hs =>Wp 4 [7,1,2,4,9,10,11,12] hs rfl<|Zy hs (Ya (s:=((b+1:Nat):Int)) rfl<|Wp 1 [] hs rfl ?_))
    have hsb:sfB sf a b=true:=by unfold sfB;rw [decide_eq_true (show a=b by omega)];rfl
    have hs:=hs.f4.f4.f4.f4.f4
    refine Zx [1,2,4,9,10,11,12] rfl ⟨b+1,_,v9,_,by omega,hA,hlg2,rfl,rfl,Bz (hs.weak hs.le (gLr _) (lSa [_,_,_,_,_] _)) Z16⟩
   refine Wp 5 [15,3] hs rfl<|Zg hs rfl (Yc rfl (fun h91=>?_) fun h91=>?_)
   ·
    refine Wp 4 [15,3] hs rfl<|Zg hs rfl (Jc a underlying30 sizeOf25 hsq rfl rfl rfl (u16_at oM) fun p96 hp96 =>Zg hs rfl (Yg rfl (hp96)<|Wp 1 [] hs rfl<|Zg hs rfl (cN (c:=(((sf.getD a 0 / 2 ^ b):Nat):Int)) rfl rfl oM (shr16 _ _ oM)<|Zg hs rfl (Xi (c:=(((sf.getD a 0 / 2 ^ b) % 2:Nat):Int)) rfl rfl sM (and1_u16 _)<|Zg hs rfl (Yc rfl (fun h101=>?_) fun h101=>?_)))))
    ·
     refine Wp 2 [] hs rfl<|O_s (Ca hs underlying64 sizeOf4 zeroValue4 rfl rfl dC dC rfl (cs:=[_]) rfl rfl fun v18 _ hs _=>?_)
     obtain ⟨_,hG104,hl104,hs⟩:=hs.fixRow noM
     replace hA:=hA.mono hG104
     replace hlg2:=hlg2.mono hG104
     refine O_s (Bf hs underlying64 oN rfl dC rfl rfl (hl104) (Fj rfl) oM Nj fun v19 _ hs =>Wp 4 [7,1,2,4,9,10,11,12] hs rfl<|Zy hs (Ya (s:=((b+1:Nat):Int)) rfl<|Wp 1 [] hs rfl ?_))
     have hsb:sfB sf a b=true:=by unfold sfB;rw [decide_eq_false (show ¬ a=b by omega),decide_eq_true (show a<sf.length by omega),decide_eq_true (show sf.getD a 0 / 2 ^ b % 2=1 by omega)];rfl
     have hs:=hs.f4.f4.f4.f4.f4
     refine Zx [1,2,4,9,10,11,12] rfl ⟨b+1,_,v9,_,by omega,hA,hlg2,rfl,rfl,Bz (hs.weak hs.le (gLr _) (lSa [_,_,_,_,_] _)) Z16⟩
    refine Wp 2 [] hs rfl<|O_s (Ca hs underlying64 sizeOf4 zeroValue4 rfl rfl dC dC rfl (cs:=[_]) rfl rfl fun v20 _ hs _=>?_)
    obtain ⟨_,hG104,hl104,hs⟩:=hs.fixRow noM
    replace hA:=hA.mono hG104
    replace hlg2:=hlg2.mono hG104
    refine O_s (Bf hs underlying64 oN rfl dC rfl rfl (hl104) (Fj rfl) oM Nj fun v21 _ hs =>Wp 4 [7,1,2,4,9,10,11,12] hs rfl<|Zy hs (Ya (s:=((b+1:Nat):Int)) rfl<|Wp 1 [] hs rfl ?_))
    have hsb:sfB sf a b=false:=by unfold sfB;rw [decide_eq_false (show ¬ a=b by omega),decide_eq_true (show a<sf.length by omega),decide_eq_false (show ¬ sf.getD a 0 / 2 ^ b % 2=1 by omega)];rfl
    have hs:=hs.f4.f4.f4.f4.f4
    refine Zx [1,2,4,9,10,11,12] rfl ⟨b+1,_,v9,_,by omega,hA,hlg2,rfl,rfl,Bz (hs.weak hs.le (gLr _) (lSa [_,_,_,_,_] _)) Z16⟩
   refine Wp 12 [] hs rfl<|O_s (Ca hs underlying64 sizeOf4 zeroValue4 rfl rfl dC dC rfl (cs:=[_]) rfl rfl fun v22 _ hs _=>?_)
   obtain ⟨_,hG104,hl104,hs⟩:=hs.fixRow noM
   replace hA:=hA.mono hG104
   replace hlg2:=hlg2.mono hG104
   refine O_s (Bf hs underlying64 oN rfl dC rfl rfl (hl104) (Fj rfl) oM Nj fun v23 _ hs =>Wp 4 [7,1,2,4,9,10,11,12] hs rfl<|Zy hs (Ya (s:=((b+1:Nat):Int)) rfl<|Wp 1 [] hs rfl ?_))
   have hsb:sfB sf a b=false:=by unfold sfB;rw [decide_eq_false (show ¬ a=b by omega),decide_eq_false (show ¬ a<sf.length by omega)];rfl
   have hs:=hs.f4.f4.f4.f4.f4
   refine Zx [1,2,4,9,10,11,12] rfl ⟨b+1,_,v9,_,by omega,hA,hlg2,rfl,rfl,Bz (hs.weak hs.le (gLr _) (lSa [_,_,_,_,_] _)) Z16⟩
  refine Wp 3 [0] hs rfl ?_
  have hsN:=hs.fixRow noM
  clear hs
  obtain ⟨_,hG_hvb,hvb,hs⟩:=hsN
  replace hA:=hA.mono hG_hvb
  replace hlg1:=hlg1.mono hG_hvb
  have hbl:Hq _ _ (sfR sf f.progs.length a):=bools_of hvb (by unfold sfR;simp;omega) (by unfold sfR;rw [show b=f.progs.length from by omega])
  clear hvb
  obtain ⟨A11,c11,rfl,_⟩:=id hbl
  refine Wu 3 [] hs rfl<|O_s (Ca hs underlying47 sizeOf64 zeroValue64 rfl rfl dC dC rfl (cs:=[_]) rfl rfl fun v24 _ hs _=>?_)
  obtain ⟨_,hG108,hl108,hs⟩:=hs.fixRow noM
  replace hA:=hA.mono hG108
  replace hlg1:=hlg1.mono hG108
  replace hbl:=hbl.mono hG108
  refine O_s (Bf hs underlying47 TI64 rfl dC rfl rfl (hl108) (Fj rfl) oM oM fun v25 _ hs =>Wp 4 [0] hs rfl<|Zy hs (Ya (s:=((a+1:Nat):Int)) rfl<|Wp 1 [] hs rfl ?_))
  have hs:=hs.f3.f3.f3.f3
  refine Zx [1,2,4,9,10] rfl ⟨a+1,_,css++[[.slice A11 (sfR sf f.progs.length a).length c11]],_,by omega,by rw [List.range_succ,List.map_append];exact hA.snoc ⟨_,rfl,hbl⟩ rfl,hlg1,rfl,rfl,Bz (hs.weak hs.le (gLr _) (lSa [_,_,_,_] _)) sM⟩
 refine Wp 3 [0] hs rfl<|Wu 4 [1] hs rfl<|O_n (Es hs.f3 sizeOf45 rfl rfl (vs:=[_,_,_,_,_]) rfl ((by simp only [List.all_cons,List.all_nil];rfl)) sM (cs':=[_,_,_,_,_]) rfl fun _ hs =>Wp 2 [0] hs rfl<|Ah ?_)
 have hs:=hs.f1
 obtain ⟨_,hG_hfv,hfv,hs⟩:=hs.fixRow noM
 replace hA:=hA.mono hG_hfv
 replace hf:=hf.mono hG_hfv
 replace hnvI:=hnvI.mono hG_hfv
 have hr:=hs
 refine Bi (vs:=[_,_]) results11 rfl ⟨Bk 0 hr isAgg45 sizeOf45 rfl (cs:=[_,_,_,_,_]) rfl rfl,rfl,trivial⟩ ?_
 try dsimp only [tup]
 have han:a=f.progs.length:=by omega
 rw [han] at hA hfv
 exact ⟨_,[],hs.done,rfl,_,_,_,_,_,_,_,_,_,_,_,rfl,hf,hnvI,hA.fin hfv sM⟩
def Ow:Bw:=⟨[Dd 0,Dd 1],[⟨[0,1],0,0,false⟩,⟨[0,1],0,0,false⟩],[(0,1)],[[0,1]]⟩
def Ni:List Int:=[1,1]
theorem f2_ok:FOk Ow:=⟨⟨by decide,by decide,by decide,by decide⟩,fun p h=>.inl (by
  have h':p∈[Dd 0,Dd 1]:=h
  simp only [List.mem_cons,List.not_mem_nil,or_false] at h'
  rcases h' with rfl | rfl
  · exact bG dC
  · exact bG dC),by decide,by decide⟩
theorem f2_c:Dh Ow=0:=by kernel_rfl
theorem kL:eB Ow Ni:=⟨f2_ok,f2_c,rfl,fun i h=>by
  have h':i<2:=h
  match i,h' with
  | 0,_=>exact ⟨by decide,by show Ni.getD 0 0<((2:Nat):Int);decide⟩
  | 1,_=>exact ⟨by decide,by show Ni.getD 1 0<((2:Nat):Int);decide⟩,by decide,by decide⟩
theorem bM:Ik Ow [0]:=⟨by decide,fun x=>by rw [show Wa Ow=[0] from by decide]⟩
theorem nds_two {G:Ghost} {v a b:Value} {x y:Lw} (h:Sl G v 4 2 [a,Vi x.runs,Vi x.claims,.bool x.up,b,Vi y.runs,Vi y.claims,.bool y.up]) (ha:Bt G a x.vers) (hb:Bt G b y.vers):yR G v [x,y] :=
  Be.ofSl (cs:=[[a,Vi x.runs,Vi x.claims,.bool x.up],[b,Vi y.runs,Vi y.claims,.bool y.up]]) h rfl rfl ⟨⟨_,rfl,ha⟩,⟨_,rfl,hb⟩,trivial⟩ Z12
theorem pgs_two {G:Ghost} {v a b c d:Value} {p q:By} (h:Sl G v 2 2 [a,b,c,d]) (hp:pM G [a,b] p) (hq:pM G [c,d] q):tE G v [p,q] :=
  Be.ofSl (cs:=[[a,b],[c,d]]) h rfl rfl ⟨hp,hq,trivial⟩ Z12
theorem Pp {G:Ghost} {v a b:Value} {x y:List Bool} (h:Sl G v 1 2 [a,b]) (ha:Hq G a x) (hb:Hq G b y):gJ G v [x,y] :=
  Be.ofSl (cs:=[[a],[b]]) h rfl rfl ⟨⟨_,rfl,ha⟩,⟨_,rfl,hb⟩,trivial⟩ Z12
theorem Pq {x y:List Bool} (hx:x.length=2) (hy:y.length=2):SOk Ow [x,y]:=⟨rfl,fun r h=>by simp only [List.mem_cons,List.not_mem_nil,or_false] at h;rcases h with rfl | rfl;exact hx;exact hy⟩
def s2a:List (List Bool):=[[true,true],[true,true]]
def s2b:List (List Bool):=[[true,true],[false,true]]
def tZ:List (List Bool):=[[true,false],[false,true]]
theorem f2_a:Wb (Ho Ow Ni s2a [0]) none (Hh (Ee Ow Ni).length [] (Ee Ow Ni))=some ([0,1],[]):=by kernel_rfl
theorem f2_b:Wb (Ho Ow Ni s2b [0]) none (Hh (Ee Ow Ni).length [] (Ee Ow Ni))=some ([1,0],[]):=by kernel_rfl
theorem f2_x:Wb (Ho Ow Ni tZ [0]) none (Hh (Ee Ow Ni).length [] (Ee Ow Ni))=some ([0,1],[0]):=by kernel_rfl
theorem f2_f:Gu Ow Ni [0] [0,1] [0]:=by unfold Gu;decide
theorem f2_g:Gu Ow Ni [0] [0,1] []:=by unfold Gu;decide
theorem f2_h:¬ Gu Ow Ni [0] [0] []:=by unfold Gu;decide
theorem f2_k:∀ x∈Ho Ow Ni tZ [0] [0,1],x∈[(0:Int)]:=by decide
theorem f2_l:¬ ∀ x∈Ho Ow Ni tZ [0] [0,1],x∈([]:List Int):=by decide
theorem ltP_anti {a b:Int×Int} (h1:mU a b=false) (h2:mU b a=false):a=b:=by
  have k1:=fun h=>Bool.eq_false_iff.1 h1 (Ph.2 h)
  have k2:=fun h=>Bool.eq_false_iff.1 h2 (Ph.2 h)
  obtain ⟨a1,a2⟩:=a
  obtain ⟨b1,b2⟩:=b
  have:a1=b1∧a2=b2:=by
    dsimp only at k1 k2
    rcases Int.lt_trichotomy a1 b1 with h | h | h
    · exact absurd (.inl h) k1
    · rcases Int.lt_trichotomy a2 b2 with h' | h' | h'
      · exact absurd (.inr ⟨h,h'⟩) k1
      · exact ⟨h,h'⟩
      · exact absurd (.inr ⟨h.symm,h'⟩) k2
    · exact absurd (.inl h) k2
  rw [this.1,this.2]
theorem srtP_eq {q q':List (Int×Int)} (h1:Srt mU q) (h2:Srt mU q') (hn:q.Nodup) (hn':q'.Nodup) (h:∀ p,p∈q↔p∈q'):q=q' :=
  List.Perm.eq_of_pairwise (le:=fun a b=>mU b a=false) (fun a b _ _ h1 h2=>ltP_anti h2 h1) h1 h2 ((List.perm_ext_iff_of_nodup hn hn').2 h)
theorem f2_n {q:List (Int×Int)} (h1:Srt mU q) (hn:q.Nodup) (h:∀ p,p∈q↔bL Ow Ni [0] [0,1] [] (Rd Ow Ni [0,1]).length p):q=[(0,0),(1,0),(1,1)]:=by
  refine srtP_eq h1 (by unfold Srt;decide) hn dC fun p=>(h p).trans ?_
  have e:Rd Ow Ni [0,1]=[[0,0],[1,0],[1,1]]:=by kernel_rfl
  unfold bL
  rw [e]
  have e0:qJ Ow [0,0] 0=(0,0):=by kernel_rfl
  have e1:qJ Ow [1,0] 0=(1,0):=by kernel_rfl
  have e2:qJ Ow [1,1] 0=(1,1):=by kernel_rfl
  constructor
  · rintro ⟨j,x,hj,hx,y,hy,_,rfl⟩
    obtain rfl:y=0:=by simpa using hy
    have hj':j<3:=hj
    match j,hj' with
    | 0,_=>(have:[(0:Int),0]=x:=by simpa using hx);subst this;rw [e0];simp
    | 1,_=>(have:[(1:Int),0]=x:=by simpa using hx);subst this;rw [e1];simp
    | 2,_=>(have:[(1:Int),1]=x:=by simpa using hx);subst this;rw [e2];simp
  · intro hp
    simp only [List.mem_cons,List.not_mem_nil,or_false] at hp
    rcases hp with rfl | rfl | rfl
    · exact ⟨0,_,by decide,rfl,0,by simp,by simp,e0.symm⟩
    · exact ⟨1,_,by decide,rfl,0,by simp,by simp,e1.symm⟩
    · exact ⟨2,_,by decide,rfl,0,by simp,by simp,e2.symm⟩
theorem two_ok {G:Ghost} :
  Ai prog 27 [] G [] fun r G' H'=>H'=[]∧∃ Ap An Ae Ar cp cn ce cr Au cu,r=.agg #[.slice Ap Ow.progs.length cp,.slice An Ow.nodes.length cn,.slice Ae Ow.edges.length ce,.slice Ar Ow.routes.length cr,.slice Au Ni.length cu]∧Hb G' Ap An Ae Ar cp cn ce cr Ow∧Bt G' (.slice Au Ni.length cu) Ni:=by
 refine Ai.of_T [] func27 rfl ntmps27 sM rfl fun w0 hs =>Wt 2 [] hs rfl<|O_s (Sa hs zeroValue45 rfl fun b0 _ hs=>Wp 3 [0] hs rfl<|O_s (Sc (fP (k:=0)) hs rfl fun v1 G' H' _ hR hG2 hs=>?_))
 obtain ⟨rfl,wa2,wb2,rfl,hPg2⟩:=hR
 replace hs:=hs.n rfl
 obtain ⟨Aa2,ka2,Ab2,kb2,rfl,rfl⟩:=hPg2.slices
 refine O_s (Sc (fP (k:=1)) hs rfl fun v2 G' H' _ hR hG3 hs=>?_)
 obtain ⟨rfl,wa3,wb3,rfl,hPg3⟩:=hR
 replace hs:=hs.n rfl
 replace hPg2:=hPg2.mono hG3
 obtain ⟨Aa3,ka3,Ab3,kb3,rfl,rfl⟩:=hPg3.slices
 refine O_s (Se hs zeroValue102 rfl fun v3 _ hs _=>?_)
 have hsN:=hs.fixRow noM
 clear hs
 obtain ⟨_,hG4,hl4,hs⟩:=hsN
 replace hPg2:=hPg2.mono hG4
 replace hPg3:=hPg3.mono hG4
 obtain ⟨A4,c4,rfl,_⟩:=id hl4
 refine O_s (Se hs zeroValue3 rfl fun v4 _ hs _=>?_)
 have hsN:=hs.fixRow noM
 clear hs
 obtain ⟨_,hG5,hl5,hs⟩:=hsN
 replace hPg2:=hPg2.mono hG5
 replace hPg3:=hPg3.mono hG5
 replace hl4:=hl4.mono hG5
 obtain ⟨A5,c5,rfl,_⟩:=id hl5
 refine Zy hs (Ba zeroValue76 rfl PL76 rfl (cs:=[_,_,_,_]) rfl<|O_s (Se hs zeroValue3 rfl fun v5 _ hs _=>?_))
 have hsN:=hs.fixRow noM
 clear hs
 obtain ⟨_,hG7,hl7,hs⟩:=hsN
 replace hPg2:=hPg2.mono hG7
 replace hPg3:=hPg3.mono hG7
 replace hl4:=hl4.mono hG7
 replace hl5:=hl5.mono hG7
 obtain ⟨A7,c7,rfl,_⟩:=id hl7
 refine Zy hs (Ba zeroValue76 rfl PL76 rfl (cs:=[_,_,_,_]) rfl<|O_s (Se hs zeroValue76 rfl fun v6 _ hs _=>?_))
 have hsN:=hs.fixRow noM
 clear hs
 obtain ⟨_,hG9,hl9,hs⟩:=hsN
 replace hPg2:=hPg2.mono hG9
 replace hPg3:=hPg3.mono hG9
 replace hl4:=hl4.mono hG9
 replace hl5:=hl5.mono hG9
 replace hl7:=hl7.mono hG9
 obtain ⟨A9,c9,rfl,_⟩:=id hl9
 refine Zy hs (Co underlying70 sizeOf3 zeroValue70 rfl rfl (cs:=[_,_]) rfl<|O_s (Se hs zeroValue70 rfl fun v7 _ hs _=>?_))
 have hsN:=hs.fixRow noM
 clear hs
 obtain ⟨_,hG11,hl11,hs⟩:=hsN
 replace hPg2:=hPg2.mono hG11
 replace hPg3:=hPg3.mono hG11
 replace hl4:=hl4.mono hG11
 replace hl5:=hl5.mono hG11
 replace hl7:=hl7.mono hG11
 replace hl9:=hl9.mono hG11
 obtain ⟨A11,c11,rfl,_⟩:=id hl11
 refine O_s (Se hs zeroValue3 rfl fun v8 _ hs _=>?_)
 have hsN:=hs.fixRow noM
 clear hs
 obtain ⟨_,hG12,hl12,hs⟩:=hsN
 replace hPg2:=hPg2.mono hG12
 replace hPg3:=hPg3.mono hG12
 replace hl4:=hl4.mono hG12
 replace hl5:=hl5.mono hG12
 replace hl7:=hl7.mono hG12
 replace hl9:=hl9.mono hG12
 replace hl11:=hl11.mono hG12
 obtain ⟨A12,c12,rfl,_⟩:=id hl12
 refine O_s (Se hs zeroValue33 rfl fun v9 _ hs _=>?_)
 have hsN:=hs.fixRow noM
 clear hs
 obtain ⟨_,hG13,hl13,hs⟩:=hsN
 replace hPg2:=hPg2.mono hG13
 replace hPg3:=hPg3.mono hG13
 replace hl4:=hl4.mono hG13
 replace hl5:=hl5.mono hG13
 replace hl7:=hl7.mono hG13
 replace hl9:=hl9.mono hG13
 replace hl11:=hl11.mono hG13
 replace hl12:=hl12.mono hG13
 obtain ⟨A13,c13,rfl,_⟩:=id hl13
 refine Zy hs (Ba zeroValue43 rfl PL43 rfl (cs:=[_,_,_,_]) rfl<|O_s (Sa hs zeroValue43 rfl fun b1 _ hs=>O_n (Sg hs rfl (rfl) fun _ hs=>Wp 4 [0,0] hs rfl<|O_s (Se hs zeroValue3 rfl fun v10 _ hs _=>?_))))
 have hsN:=hs.fixRow noM
 clear hs
 obtain ⟨_,hG16,hl16,hs⟩:=hsN
 replace hPg2:=hPg2.mono hG16
 replace hPg3:=hPg3.mono hG16
 replace hl4:=hl4.mono hG16
 replace hl5:=hl5.mono hG16
 replace hl7:=hl7.mono hG16
 replace hl9:=hl9.mono hG16
 replace hl11:=hl11.mono hG16
 replace hl12:=hl12.mono hG16
 replace hl13:=hl13.mono hG16
 obtain ⟨A16,c16,rfl,_⟩:=id hl16
 refine Zy hs (Ba zeroValue45 rfl PL45 rfl (cs:=[_,_,_,_,_]) rfl<|O_n (Sg hs.f1 rfl (rfl) fun _ hs=>Wp 1 [0] hs rfl<|Ah<|Zz results27 (Rb 0 hs rfl rF) ?_))
 exact ⟨_,[],hs.done,rfl,A4,A9,A11,A13,c4,c9,c11,c13,A16,c16,rfl,⟨pgs_two hl4 hPg2 hPg3,nds_two hl9 hl5 hl7,fL (q:=[(0,1)]) hl11,Oo.fin hl13 rfl ⟨hl12,trivial⟩⟩,hl16⟩
section
variable {x:Cx} {W:World→Prop} {E:Env} {K:Value→Prop} {d:Option Tmp} {ty:TypeId} {pos:String} {aft:Array Edge} {g:Option (Nat×Bool)} {o:Operand}
end
theorem bN {G:Ghost} {Ao1 Ac1 Ao2 Ac2:Option Addr} {co1 cc1 co2 cc2:Nat} {o1 c1 o2 c2:List Int} (h1:Bt G (.slice Ao1 o1.length co1) o1) (h2:Bt G (.slice Ac1 c1.length cc1) c1) (h3:Bt G (.slice Ao2 o2.length co2) o2) (h4:Bt G (.slice Ac2 c2.length cc2) c2) (hl1:o1.length≤1000) (hl2:c1.length≤1000) (he:o1=o2) (hc:c1=c2) :
    Ai prog 20 [.agg #[.slice Ao1 o1.length co1,.slice Ac1 c1.length cc1],.agg #[.slice Ao2 o2.length co2,.slice Ac2 c2.length cc2]] G [] fun r _ H'=>H'=[]∧r=Vt:=(rsam_ok h1 h2 h3 h4 hl1 hl2).mono fun r G' H' _ h=>⟨h.1,h.2.trans (by rw [decide_eq_true he,decide_eq_true hc];rfl)⟩
theorem eD {G:Ghost} {Aa Ab:Option Addr} {ca cb:Nat} {a b:List (Int×Int)} (ha:kU G (.slice Aa a.length ca) a) (hb:kU G (.slice Ab b.length cb) b) (hal:a.length≤1000) (he:a=b) :
        Ai prog 19 [.slice Aa a.length ca,.slice Ab b.length cb] G [] fun r _ H'=>H'=[]∧r=Vt:=(rsp31_ok ha hb hal).mono fun r G' H' _ h=>⟨h.1,h.2.trans (by rw [decide_eq_true he])⟩
theorem Ox {G:Ghost}:Bt G (Vn) []:=Sl.nil _ _
theorem san31_ok {G:Ghost} (hT:Tab G) :
  Ai prog 10 [] G [] fun r _ H'=>H'=[]∧r=Vt:=by
 refine Ai.of_T [] func10 rfl ntmps10 sM rfl fun w0 hs=>?_
 have hT0:=hT
 refine Wt 6 [0] hs rfl<|O_s (Sc (two_ok) hs rfl fun v1 G' H' _ hR hG16 hs=>?_)
 obtain ⟨rfl,Ap,An,Ae,Ar,cp,cn,ce,cr,Au,cu,rfl,hf,hu⟩:=hR
 replace hs:=hs.n rfl
 replace hT:=hT.mono hG16
 refine O_s (Sa hs zeroValue45 rfl fun b1 _ hs=>O_n (Sg hs rfl (rfl) fun _ hs=>Wp 4 [0,0] hs rfl<|O_s (Se hs zeroValue4 rfl fun v2 _ hs _=>?_)))
 have hsN:=hs.fixRow noM
 clear hs
 obtain ⟨_,hG19,hl19,hs⟩:=hsN
 replace hT:=hT.mono hG19
 replace hf:=hf.mono hG19
 replace hu:=hu.mono hG19
 obtain ⟨A19,c19,rfl,_⟩:=id hl19
 refine O_s (Se hs zeroValue4 rfl fun v3 _ hs _=>?_)
 have hsN:=hs.fixRow noM
 clear hs
 obtain ⟨_,hG20,hl20,hs⟩:=hsN
 replace hT:=hT.mono hG20
 replace hf:=hf.mono hG20
 replace hu:=hu.mono hG20
 replace hl19:=hl19.mono hG20
 obtain ⟨A20,c20,rfl,_⟩:=id hl20
 refine O_s (Se hs zeroValue64 rfl fun v4 _ hs _=>?_)
 have hsN:=hs.fixRow noM
 clear hs
 obtain ⟨_,hG21,hl21,hs⟩:=hsN
 replace hT:=hT.mono hG21
 replace hf:=hf.mono hG21
 replace hu:=hu.mono hG21
 replace hl19:=hl19.mono hG21
 replace hl20:=hl20.mono hG21
 obtain ⟨A21,c21,rfl,_⟩:=id hl21
 have hS22:gJ _ (.slice A21 2 c21) s2a:=Pp hl21 hl19 hl20
 refine O_s (Sc (Tm (s:=s2a) (u:=[0]) hf hu hS22 kL hT (Pq rfl rfl) bM) hs rfl fun v5 G' H' _ hR hG22 hs=>?_)
 obtain ⟨rfl,vo,vc,o2,rfl,hbs,hoN2,hcI2⟩:=hR
 replace hs:=hs.n rfl
 replace hT:=hT.mono hG22
 replace hf:=hf.mono hG22
 replace hu:=hu.mono hG22
 rw [f2_a] at hbs
 obtain ⟨rfl,hcl⟩:[0,1]=o2∧[]=Ho Ow Ni s2a [0] o2:=by injection hbs with h;injection h with h1 h2;exact ⟨h1,h2⟩
 rw [← hcl] at hcI2
 obtain ⟨Ao2,co2,rfl,_⟩:=id hoN2
 obtain ⟨Ac2,cc2,rfl,_⟩:=id hcI2
 clear hcl hbs
 refine Wp 3 [] hs rfl<|O_s (Sa hs zeroValue35 rfl fun b2 _ hs=>O_n (Sg hs rfl (rfl) fun _ hs=>Wp 5 [0,1] hs rfl<|O_s (Se hs zeroValue4 rfl fun v6 _ hs _=>?_)))
 have hsN:=hs.fixRow noM
 clear hs
 obtain ⟨_,hG27,hl27,hs⟩:=hsN
 replace hT:=hT.mono hG27
 replace hf:=hf.mono hG27
 replace hu:=hu.mono hG27
 replace hoN2:=hoN2.mono hG27
 replace hcI2:=hcI2.mono hG27
 obtain ⟨A27,c27,rfl,_⟩:=id hl27
 refine O_s (Se hs zeroValue4 rfl fun v7 _ hs _=>?_)
 have hsN:=hs.fixRow noM
 clear hs
 obtain ⟨_,hG28,hl28,hs⟩:=hsN
 replace hT:=hT.mono hG28
 replace hf:=hf.mono hG28
 replace hu:=hu.mono hG28
 replace hoN2:=hoN2.mono hG28
 replace hcI2:=hcI2.mono hG28
 replace hl27:=hl27.mono hG28
 obtain ⟨A28,c28,rfl,_⟩:=id hl28
 refine O_s (Se hs zeroValue64 rfl fun v8 _ hs _=>?_)
 have hsN:=hs.fixRow noM
 clear hs
 obtain ⟨_,hG29,hl29,hs⟩:=hsN
 replace hT:=hT.mono hG29
 replace hf:=hf.mono hG29
 replace hu:=hu.mono hG29
 replace hoN2:=hoN2.mono hG29
 replace hcI2:=hcI2.mono hG29
 replace hl27:=hl27.mono hG29
 replace hl28:=hl28.mono hG29
 obtain ⟨A29,c29,rfl,_⟩:=id hl29
 have hS30:gJ _ (.slice A29 2 c29) s2b:=Pp hl29 hl27 hl28
 refine O_s (Sc (Tm (s:=s2b) (u:=[0]) hf hu hS30 kL hT (Pq rfl rfl) bM) hs rfl fun v9 G' H' _ hR hG30 hs=>?_)
 obtain ⟨rfl,vo,vc,o4,rfl,hbs,hoN4,hcI4⟩:=hR
 replace hs:=hs.n rfl
 replace hT:=hT.mono hG30
 replace hf:=hf.mono hG30
 replace hu:=hu.mono hG30
 replace hoN2:=hoN2.mono hG30
 replace hcI2:=hcI2.mono hG30
 rw [f2_b] at hbs
 obtain ⟨rfl,hcl⟩:[1,0]=o4∧[]=Ho Ow Ni s2b [0] o4:=by injection hbs with h;injection h with h1 h2;exact ⟨h1,h2⟩
 rw [← hcl] at hcI4
 obtain ⟨Ao4,co4,rfl,_⟩:=id hoN4
 obtain ⟨Ac4,cc4,rfl,_⟩:=id hcI4
 clear hcl hbs
 refine Wp 3 [] hs rfl<|O_s (Sa hs zeroValue35 rfl fun b4 _ hs=>O_n (Sg hs rfl (rfl) fun _ hs=>Wp 5 [5,1,2,3,4,5,2] hs rfl<|O_s (Se hs zeroValue4 rfl fun v10 _ hs _=>?_)))
 have hsN:=hs.fixRow noM
 clear hs
 obtain ⟨_,hG35,hl35,hs⟩:=hsN
 replace hT:=hT.mono hG35
 replace hf:=hf.mono hG35
 replace hu:=hu.mono hG35
 replace hoN2:=hoN2.mono hG35
 replace hcI2:=hcI2.mono hG35
 replace hoN4:=hoN4.mono hG35
 replace hcI4:=hcI4.mono hG35
 obtain ⟨A35,c35,rfl,_⟩:=id hl35
 refine O_s (Se hs zeroValue4 rfl fun v11 _ hs _=>?_)
 have hsN:=hs.fixRow noM
 clear hs
 obtain ⟨_,hG36,hl36,hs⟩:=hsN
 replace hT:=hT.mono hG36
 replace hf:=hf.mono hG36
 replace hu:=hu.mono hG36
 replace hoN2:=hoN2.mono hG36
 replace hcI2:=hcI2.mono hG36
 replace hoN4:=hoN4.mono hG36
 replace hcI4:=hcI4.mono hG36
 replace hl35:=hl35.mono hG36
 obtain ⟨A36,c36,rfl,_⟩:=id hl36
 refine O_s (Se hs zeroValue64 rfl fun v12 _ hs _=>?_)
 have hsN:=hs.fixRow noM
 clear hs
 obtain ⟨_,hG37,hl37,hs⟩:=hsN
 replace hT:=hT.mono hG37
 replace hf:=hf.mono hG37
 replace hu:=hu.mono hG37
 replace hoN2:=hoN2.mono hG37
 replace hcI2:=hcI2.mono hG37
 replace hoN4:=hoN4.mono hG37
 replace hcI4:=hcI4.mono hG37
 replace hl35:=hl35.mono hG37
 replace hl36:=hl36.mono hG37
 obtain ⟨A37,c37,rfl,_⟩:=id hl37
 have hS38:gJ _ (.slice A37 2 c37) tZ:=Pp hl37 hl35 hl36
 refine O_s (Sc (Tm (s:=tZ) (u:=[0]) hf hu hS38 kL hT (Pq rfl rfl) bM) hs rfl fun v13 G' H' _ hR hG38 hs=>?_)
 obtain ⟨rfl,vo,vc,o6,rfl,hbs,hoN6,hcI6⟩:=hR
 replace hs:=hs.n rfl
 replace hT:=hT.mono hG38
 replace hf:=hf.mono hG38
 replace hu:=hu.mono hG38
 replace hoN2:=hoN2.mono hG38
 replace hcI2:=hcI2.mono hG38
 replace hoN4:=hoN4.mono hG38
 replace hcI4:=hcI4.mono hG38
 rw [f2_x] at hbs
 obtain ⟨rfl,hcl⟩:[0,1]=o6∧[0]=Ho Ow Ni tZ [0] o6:=by injection hbs with h;injection h with h1 h2;exact ⟨h1,h2⟩
 rw [← hcl] at hcI6
 obtain ⟨Ao6,co6,rfl,_⟩:=id hoN6
 obtain ⟨Ac6,cc6,rfl,_⟩:=id hcI6
 clear hcl hbs
 refine Wp 3 [] hs rfl<|O_s (Sa hs zeroValue35 rfl fun b6 _ hs=>O_n (Sg hs rfl (rfl) fun _ hs=>Wp 5 [0,3] hs rfl<|O_s (Se hs zeroValue4 rfl fun v14 _ hs _=>?_)))
 have hsN:=hs.fixRow noM
 clear hs
 obtain ⟨_,hG43,hl43,hs⟩:=hsN
 replace hT:=hT.mono hG43
 replace hf:=hf.mono hG43
 replace hu:=hu.mono hG43
 replace hoN2:=hoN2.mono hG43
 replace hcI2:=hcI2.mono hG43
 replace hoN4:=hoN4.mono hG43
 replace hcI4:=hcI4.mono hG43
 replace hoN6:=hoN6.mono hG43
 replace hcI6:=hcI6.mono hG43
 obtain ⟨A43,c43,rfl,_⟩:=id hl43
 refine O_s (Se hs zeroValue4 rfl fun v15 _ hs _=>?_)
 have hsN:=hs.fixRow noM
 clear hs
 obtain ⟨_,hG44,hl44,hs⟩:=hsN
 replace hT:=hT.mono hG44
 replace hf:=hf.mono hG44
 replace hu:=hu.mono hG44
 replace hoN2:=hoN2.mono hG44
 replace hcI2:=hcI2.mono hG44
 replace hoN4:=hoN4.mono hG44
 replace hcI4:=hcI4.mono hG44
 replace hoN6:=hoN6.mono hG44
 replace hcI6:=hcI6.mono hG44
 replace hl43:=hl43.mono hG44
 obtain ⟨A44,c44,rfl,_⟩:=id hl44
 refine O_s (Se hs zeroValue64 rfl fun v16 _ hs _=>?_)
 have hsN:=hs.fixRow noM
 clear hs
 obtain ⟨_,hG45,hl45,hs⟩:=hsN
 replace hT:=hT.mono hG45
 replace hf:=hf.mono hG45
 replace hu:=hu.mono hG45
 replace hoN2:=hoN2.mono hG45
 replace hcI2:=hcI2.mono hG45
 replace hoN4:=hoN4.mono hG45
 replace hcI4:=hcI4.mono hG45
 replace hoN6:=hoN6.mono hG45
 replace hcI6:=hcI6.mono hG45
 replace hl43:=hl43.mono hG45
 replace hl44:=hl44.mono hG45
 obtain ⟨A45,c45,rfl,_⟩:=id hl45
 refine Wp 1 [0] hs rfl ?_
 have hS47:gJ _ (.slice A45 2 c45) tZ:=Pp hl45 hl43 hl44
 refine O_s (Sc (Wy (s:=tZ) (u:=[0]) (o:=[0,1]) (cl:=[0]) hf hu hS47 hoN6 hcI6 bM dC dC kL hT (Pq rfl rfl)) hs rfl fun v17 G' H' _ hR hG47 hs=>?_)
 obtain ⟨rfl,n47,e47,rfl,h0,h310,h1,hn⟩:=hR
 replace hs:=hs.n rfl
 replace hT:=hT.mono hG47
 replace hf:=hf.mono hG47
 replace hu:=hu.mono hG47
 replace hoN2:=hoN2.mono hG47
 replace hcI2:=hcI2.mono hG47
 replace hoN4:=hoN4.mono hG47
 replace hcI4:=hcI4.mono hG47
 replace hoN6:=hoN6.mono hG47
 replace hcI6:=hcI6.mono hG47
 obtain rfl:e47=0:=h0.2 ⟨f2_f,f2_k⟩
 obtain rfl:n47=3:=hn rfl
 clear h0 h310 h1 hn
 refine Wp 9 [9,1,2,3,4,5,6,7,8,9,3] hs rfl<|O_s (Se hs zeroValue4 rfl fun v18 _ hs _=>?_)
 have hsN:=hs.fixRow noM
 clear hs
 obtain ⟨_,hG52,hl52,hs⟩:=hsN
 replace hT:=hT.mono hG52
 replace hf:=hf.mono hG52
 replace hu:=hu.mono hG52
 replace hoN2:=hoN2.mono hG52
 replace hcI2:=hcI2.mono hG52
 replace hoN4:=hoN4.mono hG52
 replace hcI4:=hcI4.mono hG52
 replace hoN6:=hoN6.mono hG52
 replace hcI6:=hcI6.mono hG52
 obtain ⟨A52,c52,rfl,_⟩:=id hl52
 refine O_s (Se hs zeroValue4 rfl fun v19 _ hs _=>?_)
 have hsN:=hs.fixRow noM
 clear hs
 obtain ⟨_,hG53,hl53,hs⟩:=hsN
 replace hT:=hT.mono hG53
 replace hf:=hf.mono hG53
 replace hu:=hu.mono hG53
 replace hoN2:=hoN2.mono hG53
 replace hcI2:=hcI2.mono hG53
 replace hoN4:=hoN4.mono hG53
 replace hcI4:=hcI4.mono hG53
 replace hoN6:=hoN6.mono hG53
 replace hcI6:=hcI6.mono hG53
 replace hl52:=hl52.mono hG53
 obtain ⟨A53,c53,rfl,_⟩:=id hl53
 refine O_s (Se hs zeroValue64 rfl fun v20 _ hs _=>?_)
 have hsN:=hs.fixRow noM
 clear hs
 obtain ⟨_,hG54,hl54,hs⟩:=hsN
 replace hT:=hT.mono hG54
 replace hf:=hf.mono hG54
 replace hu:=hu.mono hG54
 replace hoN2:=hoN2.mono hG54
 replace hcI2:=hcI2.mono hG54
 replace hoN4:=hoN4.mono hG54
 replace hcI4:=hcI4.mono hG54
 replace hoN6:=hoN6.mono hG54
 replace hcI6:=hcI6.mono hG54
 replace hl52:=hl52.mono hG54
 replace hl53:=hl53.mono hG54
 obtain ⟨A54,c54,rfl,_⟩:=id hl54
 refine O_s (Se hs zeroValue3 rfl fun v21 _ hs _=>?_)
 have hsN:=hs.fixRow noM
 clear hs
 obtain ⟨_,hG55,hl55,hs⟩:=hsN
 replace hT:=hT.mono hG55
 replace hf:=hf.mono hG55
 replace hu:=hu.mono hG55
 replace hoN2:=hoN2.mono hG55
 replace hcI2:=hcI2.mono hG55
 replace hoN4:=hoN4.mono hG55
 replace hcI4:=hcI4.mono hG55
 replace hoN6:=hoN6.mono hG55
 replace hcI6:=hcI6.mono hG55
 replace hl52:=hl52.mono hG55
 replace hl53:=hl53.mono hG55
 replace hl54:=hl54.mono hG55
 obtain ⟨A55,c55,rfl,_⟩:=id hl55
 refine Zy hs (Ba zeroValue35 rfl kH rfl (cs:=[_,_]) rfl ?_)
 have hS57:gJ _ (.slice A54 2 c54) tZ:=Pp hl54 hl52 hl53
 refine O_s (Sc (Wy (s:=tZ) (u:=[0]) (o:=[0,1]) (cl:=[]) hf hu hS57 (show Cr _ _ [0,1] from hl55) Ox bM dC dC kL hT (Pq rfl rfl)) hs rfl fun v22 G' H' _ hR hG57 hs=>?_)
 obtain ⟨rfl,n57,e57,rfl,h0,h310,h1,hn⟩:=hR
 replace hs:=hs.n rfl
 replace hT:=hT.mono hG57
 replace hf:=hf.mono hG57
 replace hu:=hu.mono hG57
 replace hoN2:=hoN2.mono hG57
 replace hcI2:=hcI2.mono hG57
 replace hoN4:=hoN4.mono hG57
 replace hcI4:=hcI4.mono hG57
 replace hoN6:=hoN6.mono hG57
 replace hcI6:=hcI6.mono hG57
 obtain rfl:e57=310:=h310.2 ⟨f2_g,f2_l⟩
 clear h0 h310 h1 hn
 refine Wp 9 [0,3] hs rfl<|O_s (Se hs zeroValue4 rfl fun v23 _ hs _=>?_)
 have hsN:=hs.fixRow noM
 clear hs
 obtain ⟨_,hG62,hl62,hs⟩:=hsN
 replace hT:=hT.mono hG62
 replace hf:=hf.mono hG62
 replace hu:=hu.mono hG62
 replace hoN2:=hoN2.mono hG62
 replace hcI2:=hcI2.mono hG62
 replace hoN4:=hoN4.mono hG62
 replace hcI4:=hcI4.mono hG62
 replace hoN6:=hoN6.mono hG62
 replace hcI6:=hcI6.mono hG62
 obtain ⟨A62,c62,rfl,_⟩:=id hl62
 refine O_s (Se hs zeroValue4 rfl fun v24 _ hs _=>?_)
 have hsN:=hs.fixRow noM
 clear hs
 obtain ⟨_,hG63,hl63,hs⟩:=hsN
 replace hT:=hT.mono hG63
 replace hf:=hf.mono hG63
 replace hu:=hu.mono hG63
 replace hoN2:=hoN2.mono hG63
 replace hcI2:=hcI2.mono hG63
 replace hoN4:=hoN4.mono hG63
 replace hcI4:=hcI4.mono hG63
 replace hoN6:=hoN6.mono hG63
 replace hcI6:=hcI6.mono hG63
 replace hl62:=hl62.mono hG63
 obtain ⟨A63,c63,rfl,_⟩:=id hl63
 refine O_s (Se hs zeroValue64 rfl fun v25 _ hs _=>?_)
 have hsN:=hs.fixRow noM
 clear hs
 obtain ⟨_,hG64,hl64,hs⟩:=hsN
 replace hT:=hT.mono hG64
 replace hf:=hf.mono hG64
 replace hu:=hu.mono hG64
 replace hoN2:=hoN2.mono hG64
 replace hcI2:=hcI2.mono hG64
 replace hoN4:=hoN4.mono hG64
 replace hcI4:=hcI4.mono hG64
 replace hoN6:=hoN6.mono hG64
 replace hcI6:=hcI6.mono hG64
 replace hl62:=hl62.mono hG64
 replace hl63:=hl63.mono hG64
 obtain ⟨A64,c64,rfl,_⟩:=id hl64
 refine O_s (Se hs zeroValue3 rfl fun v26 _ hs _=>?_)
 have hsN:=hs.fixRow noM
 clear hs
 obtain ⟨_,hG65,hl65,hs⟩:=hsN
 replace hT:=hT.mono hG65
 replace hf:=hf.mono hG65
 replace hu:=hu.mono hG65
 replace hoN2:=hoN2.mono hG65
 replace hcI2:=hcI2.mono hG65
 replace hoN4:=hoN4.mono hG65
 replace hcI4:=hcI4.mono hG65
 replace hoN6:=hoN6.mono hG65
 replace hcI6:=hcI6.mono hG65
 replace hl62:=hl62.mono hG65
 replace hl63:=hl63.mono hG65
 replace hl64:=hl64.mono hG65
 obtain ⟨A65,c65,rfl,_⟩:=id hl65
 refine Zy hs (Ba zeroValue35 rfl kH rfl (cs:=[_,_]) rfl ?_)
 have hS67:gJ _ (.slice A64 2 c64) tZ:=Pp hl64 hl62 hl63
 refine O_s (Sc (Wy (s:=tZ) (u:=[0]) (o:=[0]) (cl:=[]) hf hu hS67 (show Cr _ _ [0] from hl65) Ox bM dC dC kL hT (Pq rfl rfl)) hs rfl fun v27 G' H' _ hR hG67 hs=>?_)
 obtain ⟨rfl,n67,e67,rfl,h0,h310,h1,hn⟩:=hR
 replace hs:=hs.n rfl
 replace hT:=hT.mono hG67
 replace hf:=hf.mono hG67
 replace hu:=hu.mono hG67
 replace hoN2:=hoN2.mono hG67
 replace hcI2:=hcI2.mono hG67
 replace hoN4:=hoN4.mono hG67
 replace hcI4:=hcI4.mono hG67
 replace hoN6:=hoN6.mono hG67
 replace hcI6:=hcI6.mono hG67
 obtain rfl:e67=1:=h1.2 f2_h
 clear h0 h310 h1 hn
 refine Wp 10 [11,1,2,3,4,5,6,7,8,9,11,13,3,2] hs rfl<|O_s (Sc (qL (u:=[0]) (o:=[0,1]) (cl:=[]) hf hu hoN2 hcI2 bM dC dC kL hT f2_g dC) hs rfl fun v28 G' H' _ hR hG73 hs=>?_)
 obtain ⟨rfl,vq,q,rfl,hEd,hsq,hqn,hqm⟩:=hR
 replace hs:=hs.n rfl
 replace hT:=hT.mono hG73
 replace hf:=hf.mono hG73
 replace hu:=hu.mono hG73
 replace hoN2:=hoN2.mono hG73
 replace hcI2:=hcI2.mono hG73
 replace hoN4:=hoN4.mono hG73
 replace hcI4:=hcI4.mono hG73
 replace hoN6:=hoN6.mono hG73
 replace hcI6:=hcI6.mono hG73
 obtain rfl:=f2_n hsq hqn hqm
 obtain ⟨A73,c73,rfl⟩:=Be.slice hEd
 clear hsq hqn hqm
 refine Wp 12 [0,2] hs rfl<|Ch 78 rfl rfl (Se hs zeroValue3 rfl fun v29 _ hs _=>?_)
 have hsN:=hs.fixRow noM
 clear hs
 obtain ⟨_,hG80,hl80,hs⟩:=hsN
 replace hT:=hT.mono hG80
 replace hf:=hf.mono hG80
 replace hu:=hu.mono hG80
 replace hoN2:=hoN2.mono hG80
 replace hcI2:=hcI2.mono hG80
 replace hoN4:=hoN4.mono hG80
 replace hcI4:=hcI4.mono hG80
 replace hoN6:=hoN6.mono hG80
 replace hcI6:=hcI6.mono hG80
 replace hEd:=hEd.mono hG80
 obtain ⟨A80,c80,rfl,_⟩:=id hl80
 refine Zg hs rfl (Ba zeroValue35 rfl kH rfl (cs:=[_,_]) rfl<|Ch 78 rfl rfl (Sc (bN (o1:=[0,1]) (c1:=[]) (o2:=[0,1]) (c2:=[]) (Vl hoN2) hcI2 (show Bt _ _ [0,1] from hl80) Ox dC dC rfl rfl) hs rfl fun v30 G' H' _ hR hG82 hs=>?_))
 obtain ⟨rfl,rfl⟩:=hR
 replace hs:=hs.n rfl
 replace hT:=hT.mono hG82
 replace hf:=hf.mono hG82
 replace hu:=hu.mono hG82
 replace hoN4:=hoN4.mono hG82
 replace hcI4:=hcI4.mono hG82
 replace hoN6:=hoN6.mono hG82
 replace hcI6:=hcI6.mono hG82
 replace hEd:=hEd.mono hG82
 refine Wp 7 [1] hs rfl<|Ch 88 rfl rfl (Se hs zeroValue3 rfl fun v31 _ hs _=>?_)
 have hsN:=hs.fixRow noM
 clear hs
 obtain ⟨_,hG90,hl90,hs⟩:=hsN
 replace hT:=hT.mono hG90
 replace hf:=hf.mono hG90
 replace hu:=hu.mono hG90
 replace hoN4:=hoN4.mono hG90
 replace hcI4:=hcI4.mono hG90
 replace hoN6:=hoN6.mono hG90
 replace hcI6:=hcI6.mono hG90
 replace hEd:=hEd.mono hG90
 obtain ⟨A90,c90,rfl,_⟩:=id hl90
 refine Zg hs rfl (Ba zeroValue35 rfl kH rfl (cs:=[_,_]) rfl<|Ch 88 rfl rfl (Sc (bN (o1:=[1,0]) (c1:=[]) (o2:=[1,0]) (c2:=[]) (Vl hoN4) hcI4 (show Bt _ _ [1,0] from hl90) Ox dC dC rfl rfl) hs rfl fun v32 G' H' _ hR hG92 hs=>?_))
 obtain ⟨rfl,rfl⟩:=hR
 replace hs:=hs.n rfl
 replace hT:=hT.mono hG92
 replace hf:=hf.mono hG92
 replace hu:=hu.mono hG92
 replace hoN6:=hoN6.mono hG92
 replace hcI6:=hcI6.mono hG92
 replace hEd:=hEd.mono hG92
 refine Wp 7 [0] hs rfl<|Ch 98 rfl rfl (Se hs zeroValue3 rfl fun v33 _ hs _=>?_)
 have hsN:=hs.fixRow noM
 clear hs
 obtain ⟨_,hG100,hl100,hs⟩:=hsN
 replace hT:=hT.mono hG100
 replace hf:=hf.mono hG100
 replace hu:=hu.mono hG100
 replace hoN6:=hoN6.mono hG100
 replace hcI6:=hcI6.mono hG100
 replace hEd:=hEd.mono hG100
 obtain ⟨A100,c100,rfl,_⟩:=id hl100
 refine Ch 98 rfl rfl (Se hs zeroValue3 rfl fun v34 _ hs _=>?_)
 have hsN:=hs.fixRow noM
 clear hs
 obtain ⟨_,hG101,hl101,hs⟩:=hsN
 replace hT:=hT.mono hG101
 replace hf:=hf.mono hG101
 replace hu:=hu.mono hG101
 replace hoN6:=hoN6.mono hG101
 replace hcI6:=hcI6.mono hG101
 replace hEd:=hEd.mono hG101
 replace hl100:=hl100.mono hG101
 obtain ⟨A101,c101,rfl,_⟩:=id hl101
 refine Zg hs rfl (Ba zeroValue35 rfl kH rfl (cs:=[_,_]) rfl<|Ch 98 rfl rfl (Sc (bN (o1:=[0,1]) (c1:=[0]) (o2:=[0,1]) (c2:=[0]) (Vl hoN6) hcI6 (show Bt _ _ [0,1] from hl100) (show Bt _ _ [0] from hl101) dC dC rfl rfl) hs rfl fun v35 G' H' _ hR hG103 hs=>?_))
 obtain ⟨rfl,rfl⟩:=hR
 replace hs:=hs.n rfl
 replace hT:=hT.mono hG103
 replace hf:=hf.mono hG103
 replace hu:=hu.mono hG103
 replace hEd:=hEd.mono hG103
 refine Wp 23 [] hs rfl<|Zg hs rfl (Co underlying70 sizeOf3 zeroValue70 rfl rfl (cs:=[_,_]) rfl<|Zg hs rfl (Co underlying70 sizeOf3 zeroValue70 rfl rfl (cs:=[_,_]) rfl<|Zg hs rfl (Co underlying70 sizeOf3 zeroValue70 rfl rfl (cs:=[_,_]) rfl<|Ch 125 rfl rfl (Se hs zeroValue70 rfl fun v36 _ hs _=>?_))))
 have hsN:=hs.fixRow noM
 clear hs
 obtain ⟨_,hG130,hl130,hs⟩:=hsN
 replace hT:=hT.mono hG130
 replace hf:=hf.mono hG130
 replace hu:=hu.mono hG130
 replace hEd:=hEd.mono hG130
 obtain ⟨A130,c130,rfl,_⟩:=id hl130
 refine Ch 125 rfl rfl (Sc (eD (a:=[(0,0),(1,0),(1,1)]) (b:=[(0,0),(1,0),(1,1)]) hEd (fL (q:=[(0,0),(1,0),(1,1)]) hl130) dC rfl) hs rfl fun v37 G' H' _ hR hG131 hs=>?_)
 obtain ⟨rfl,rfl⟩:=hR
 replace hs:=hs.n rfl
 replace hT:=hT.mono hG131
 replace hf:=hf.mono hG131
 replace hu:=hu.mono hG131
 refine Wp 3 [3] hs rfl<|Ch 133 rfl rfl (Sc (plvn_ok (f:=Ow) hf hu kL hT) hs rfl fun v38 G' H' _ hR hG135 hs=>?_)
 obtain ⟨rfl,rfl⟩:=hR
 replace hs:=hs.n rfl
 replace hT:=hT.mono hG135
 refine Wp 3 [] hs rfl<|Zg hs rfl (Ba zeroValue45 rfl PL45 rfl (cs:=[_,_,_,_,_]) rfl<|Ch 138 rfl rfl (Sc (plvb_ok (f:=noF) (nv:=[]) ⟨Be.nil,Be.nil,Be.nil,Be.nil⟩ Ox noF_ok hT (by rw [noF_c];decide)) hs rfl fun v39 G' H' _ hR hG140 hs=>?_))
 obtain ⟨rfl,rfl⟩:=hR
 replace hs:=hs.n rfl
 rw [noF_c]
 refine Wp 4 [1,0] hs rfl<|Ah<|Zz results10 rfl ?_
 exact ⟨_,[],hs.done,rfl,rfl⟩
theorem used_ex (f:Bw):∃ u,Ik f u:=by
  refine ⟨((List.range (f.edges.length+1)).filter fun i:Nat=>decide ((i:Int)∈Wa f)).map fun i:Nat=>(i:Int),?_,fun x=>?_⟩
  · exact List.Pairwise.map _ (fun a b h=>by omega) (List.Pairwise.filter _ List.pairwise_lt_range)
  · rw [List.mem_map]
    constructor
    · rintro ⟨i,hi,rfl⟩;exact of_decide_eq_true (List.mem_filter.1 hi).2
    · intro hx
      have hx':=hx
      unfold Wa at hx'
      obtain ⟨e,_,rfl⟩:=List.mem_map.1 hx'
      exact ⟨_,List.mem_filter.2 ⟨List.mem_range.2 (by have:=nZ e f.edges;omega),decide_eq_true hx⟩,rfl⟩
theorem qP {f:Bw} {nv:List Int} {s:List (List Bool)} {u:List Int} {o:List Nat} (h:Wb (Ho f nv s u) none (Hh (Ee f nv).length [] (Ee f nv))=some (o,Ho f nv s u o)) :
    ∃ a b,Hh (Ee f nv).length [] (Ee f nv)=a++o::b∧(∀ x∈Hh (Ee f nv).length [] (Ee f nv),(Ho f nv s u o).length≤(Ho f nv s u x).length)∧∀ x∈a,(Ho f nv s u o).length<(Ho f nv s u x).length:=by
  obtain ⟨o',a,b,h1,h2,h3,h4⟩:=zP (Ho f nv s u) (zX (n:=(Ee f nv).length) (p:=[]) (l:=Ee f nv) rfl)
  rw [h] at h1
  injection h1 with h1
  injection h1 with h1 _
  subst h1
  exact ⟨a,b,h2,h3,h4⟩
theorem cl_in {f:Bw} {nv:List Int} {s:List (List Bool)} {u:List Int} {o:List Nat}:(Ho f nv s u o).Sublist u:=nC o
theorem tR {f:Bw} {nv:List Int} {s:List (List Bool)} {u:List Int} {o:List Nat} (hu:Ik f u) (ho:o∈Hh (Ee f nv).length [] (Ee f nv)):Gu f nv u o (Ho f nv s u o):=by
  refine ⟨fun e he=>cl_in.subset he,hu.1.sublist cl_in,?_⟩
  obtain ⟨q,hq0,hq⟩:=Tl _ [] _ o rfl ho
  obtain rfl:o=q:=hq0
  exact hq
def tS (f:Bw) (nv:List Int) (k:Nat):List Lw:=f.nodes.mapIdx fun i x=>if i<k then { x with runs:=nv.getD i 0 } else x
def Vu (f:Bw) (nv:List Int):Bw:={ f with nodes:=tS f nv f.nodes.length }
def Tn (f:Bw):List Int:=f.nodes.map (·.runs)
section
variable {f:Bw} {nv:List Int}
theorem Mt {k:Nat}:(tS f nv k).length=f.nodes.length:=List.length_mapIdx
theorem bkS_zero:tS f nv 0=f.nodes:=by
  unfold tS;apply List.ext_getElem sM;intro i h1 h2;simp
theorem bkS_succ {k:Nat} (h:k<f.nodes.length):tS f nv (k+1)=(tS f nv k).set k { f.nodes[k] with runs:=nv.getD k 0 }:=by
  unfold tS
  apply List.ext_getElem sM
  intro i h1 h2
  rw [List.getElem_set]
  simp only [List.getElem_mapIdx]
  by_cases e:k=i
  · subst e;rw [if_pos rfl,if_pos (Nat.lt_succ_self _)]
  · rw [if_neg e]
    by_cases e2:i<k
    · rw [if_pos e2,if_pos oM]
    · rw [if_neg e2,if_neg oM]
theorem kM {i:Nat} (h:i<f.nodes.length):(Vu f nv).nodes[i]?=some { f.nodes[i] with runs:=nv.getD i 0 }:=by
  unfold Vu tS;dsimp only
  rw [List.getElem?_mapIdx,List.getElem?_eq_getElem h,Option.map_some,if_pos h]
theorem Km:(Vu f nv).nodes.length=f.nodes.length:=Mt
theorem bk_mem {x:Lw} (h:x∈(Vu f nv).nodes):∃ i,∃ h:i<f.nodes.length,x={ f.nodes[i] with runs:=nv.getD i 0 }:=by
  obtain ⟨i,hi,rfl⟩:=List.getElem_of_mem h
  have hl:i<f.nodes.length:=by rw [Km] at hi;exact hi
  have:=kM (nv:=nv) hl
  rw [List.getElem?_eq_getElem hi] at this
  exact ⟨i,hl,Option.some.inj this⟩
theorem nH {i:Nat} (h:i<f.nodes.length):(Tn f).getD i 0=f.nodes[i].runs:=by
  unfold Tn;rw [List.getD_eq_getElem?_getD,List.getElem?_map,List.getElem?_eq_getElem h];rfl
theorem bkR_at {i:Nat} (h:i<f.nodes.length):((Vu f nv).nodes.map (·.runs)).getD i 0=nv.getD i 0:=by
  rw [List.getD_eq_getElem?_getD,List.getElem?_map,kM h];rfl
theorem qQ:Fl (Vu f nv)=Qf f nv:=by
  unfold Fl Qf
  apply List.ext_getElem (by simp [Km])
  intro i h1 h2
  have h:i<f.nodes.length:=by simpa using h2
  have:=kM (nv:=nv) h
  rw [List.getElem?_eq_getElem (by rw [Km];exact h)] at this
  rw [List.getElem_map,List.getElem_map,List.getElem_range,List.getElem?_eq_getElem h,Option.some.inj this]
theorem bk_new:Qf (Vu f nv) (Tn f)=Fl f:=by
  unfold Fl Qf
  apply List.ext_getElem (by simp [Km])
  intro i h1 h2
  have h:i<f.nodes.length:=by simpa using h2
  rw [List.getElem_map,List.getElem_map,List.getElem_range,kM h,nH h]
theorem gF:Ee (Vu f nv) (Tn f)=Ee f nv:=by
  unfold Ee
  rw [Km]
  refine List.filter_congr fun i hi=>?_
  have h:=List.mem_range.1 hi
  unfold gI
  rw [nH h,bkR_at h,List.getD_eq_getElem?_getD (l:=f.nodes.map _),List.getElem?_map,List.getElem?_eq_getElem h]
  simp only [Option.map_some,Option.getD_some,eq_comm]
theorem bk_ok (hU:eB f nv):eB (Vu f nv) (Tn f):=by
  obtain ⟨hc0,hc1,hcn,hce,hcr⟩:=On hU.c
  have hn:∀ i,(h:i<f.nodes.length)→Ij f.progs.length f.nodes[i]=true:=fun i h=>List.all_eq_true.1 hcn _ (List.getElem_mem h)
  refine { g:=⟨⟨by rw [Km];exact hU.g.z.n,hU.g.z.e,fun x hx=>?_,hU.g.z.r⟩,hU.g.o,hU.g.pl,hU.g.rl⟩,c:=?_,n:=by unfold Tn;simp [Km],v:=fun i h=>?_,u:=by rw [gF];exact hU.u,r:=hU.r }
  · obtain ⟨i,h,rfl⟩:=bk_mem hx
    show f.nodes[i].vers.length≤1000
    exact hU.g.z.v _ (List.getElem_mem h)
  · have h2:(Vu f nv).nodes.all (Ij f.progs.length)=true:=List.all_eq_true.2 fun x hx=>by
      obtain ⟨i,h,rfl⟩:=bk_mem hx
      have h3:=hn i h
      have h4:=hU.v i h
      unfold Ij at h3 ⊢
      simp only [Bool.and_eq_true] at h3 ⊢
      exact ⟨h3.1,h3.2.1,Hz.2 h4,h3.2.2.2⟩
    have h5:=hU.c
    unfold Dh at h5 ⊢
    rw [hcn] at h5
    rw [show (Vu f nv).progs=f.progs from rfl,show (Vu f nv).edges=f.edges from rfl,show (Vu f nv).routes=f.routes from rfl,Km,h2]
    exact h5
  · have hl:i<f.nodes.length:=by rw [Km] at h;exact h
    have h6:=kM (nv:=nv) hl
    rw [List.getElem?_eq_getElem h] at h6
    rw [nH hl,Option.some.inj h6]
    exact (Lx (hn i hl)).2.2.2.1
theorem fin_in (nv:List Int):∀ (o:List Nat) (r:List Int) (j:Nat),j∈o→(∀ i∈o,i<r.length)→(Nn nv r o).getD j 0=nv.getD j 0
  | a::o,r,j,h,hl=>by
    show (Nn nv (r.set a _) o).getD j 0=_
    by_cases hj:j∈o
    · exact fin_in nv o _ j hj fun i hi=>by rw [List.length_set];exact hl i (List.mem_cons_of_mem _ hi)
    · rw [gA nv o _ j hj]
      rcases List.mem_cons.1 h with rfl | h
      · rw [List.getD_eq_getElem?_getD,List.getElem?_set_self (hl j List.mem_cons_self)];rfl
      · exact absurd h hj
theorem bk_fin {o:List Nat} (ho:o.Perm (Ee f nv)):Nn (Qf f nv) (Fl f) o=Qf f nv:=by
  have hl:∀ i∈o,i<f.nodes.length:=fun i hi=>Pn i (ho.subset hi)
  have hn:(Qf f nv).length=f.nodes.length:=by unfold Qf;simp
  apply List.ext_getElem (by rw [qC,Gb,hn])
  intro i h1 h2
  have h:i<f.nodes.length:=by rw [← hn];exact h2
  have e:(Nn (Qf f nv) (Fl f) o).getD i 0=(Qf f nv).getD i 0:=by
    by_cases hi:i∈o
    · exact fin_in _ o _ i hi fun j hj=>by rw [Gb];exact hl j hj
    · rw [gA _ o _ i hi]
      have hu:i∉Ee f nv:=fun h=>hi (ho.symm.subset h)
      have hb:gI f nv i=false:=by
        cases hb:gI f nv i with
        | false=>rfl
        | true=>exact absurd (List.mem_filter.2 ⟨List.mem_range.2 h,hb⟩) hu
      unfold gI at hb
      rw [List.getD_eq_getElem?_getD (l:=f.nodes.map _),List.getElem?_map,List.getElem?_eq_getElem h] at hb
      simp only [Option.map_some,Option.getD_some,decide_eq_false_iff_not,Decidable.not_not] at hb
      unfold Qf Fl
      rw [List.getD_eq_getElem?_getD,List.getD_eq_getElem?_getD,List.getElem?_map,List.getElem?_map,List.getElem?_range h,List.getElem?_eq_getElem h]
      simp only [Option.map_some,Option.getD_some,hb,List.getElem?_eq_getElem h]
  rw [List.getD_eq_getElem?_getD,List.getD_eq_getElem?_getD,List.getElem?_eq_getElem h1,List.getElem?_eq_getElem h2] at e
  exact e
theorem bk_st {o:List Nat} (ho:o.Perm (Ee f nv)):Rd (Vu f nv) (Tn f) o.reverse=(Rd f nv o).reverse:=by
  have hn:o.Nodup:=ho.nodup_iff.2 (Ou.imp fun h=>by omega)
  unfold Rd
  rw [qQ,bk_new]
  have:=(gB (Qf f nv) (Fl f) o (Fl f) hn (fun i hi=>by rw [Gb];exact Pn i (ho.subset hi)) fun _ _=>rfl).1
  rw [bk_fin ho] at this
  exact this
theorem bk_cl {s:List (List Bool)} {u:List Int} {o:List Nat} (ho:o.Perm (Ee f nv)):Ho (Vu f nv) (Tn f) s u o.reverse=Ho f nv s u o:=by
  have hn:o.Nodup:=ho.nodup_iff.2 (Ou.imp fun h=>by omega)
  unfold Ho
  rw [qQ,bk_new]
  have:=cl_back (nv:=Qf f nv) (r0:=Fl f) (ed:=kY f) (S:=Pw s) (U:=u) hn (fun i hi=>by rw [Gb];exact Pn i (ho.subset hi))
  rw [bk_fin ho] at this
  exact this
theorem gG {u:List Int} {o:List Nat} {cl:List Int} {p:Int×Int}:bL f nv u o cl (Rd f nv o).length p↔∃ x∈Rd f nv o,∃ e∈u,e∉cl∧p=qJ f x e :=
  ⟨fun ⟨_,x,_,hx,h⟩=>⟨x,List.mem_of_getElem? hx,h⟩,fun ⟨x,hx,h⟩=>by obtain ⟨j,hj,rfl⟩:=List.getElem_of_mem hx;exact ⟨j,_,hj,List.getElem?_eq_getElem hj,h⟩⟩
theorem bk_ned {u:List Int} {o:List Nat} {cl:List Int} {p:Int×Int} (ho:o.Perm (Ee f nv)):bL (Vu f nv) (Tn f) u o.reverse cl (Rd (Vu f nv) (Tn f) o.reverse).length p↔bL f nv u o cl (Rd f nv o).length p:=by
  rw [gG,gG,bk_st ho]
  simp only [List.mem_reverse]
  exact Iff.rfl
theorem bk_form {u:List Int} {o:List Nat} {cl:List Int} (h:Gu f nv u o cl):Gu (Vu f nv) (Tn f) u o.reverse cl :=
  ⟨h.1,h.2.1,(List.reverse_perm o).trans (by rw [gF];exact h.2.2)⟩
end
theorem tT:∀ {p q:List (Int×Int)},Srt mU p→Srt mU q→p.Nodup→q.Nodup→(∀ x,x∈p↔x∈q)→p=q:=by
  intro p q h1 h2 n1 n2 h
  have hp:=(List.perm_ext_iff_of_nodup n1 n2).2 h
  exact List.Perm.eq_of_pairwise (fun a b _ _ h1 h2=>by rw [aV] at h1 h2;exact Prod.ext oM oM) h1 h2 hp
theorem bkV_get {f:Bw} {k:Nat} (h:k<f.nodes.length):(Tn f)[k]?=some f.nodes[k].runs:=by
  unfold Tn;rw [List.getElem?_map,List.getElem?_eq_getElem h];rfl
theorem nodr_one {G:Ghost} {c:List Value} {x:Lw} (h:jM G c x):∀ y∈c,y.oneCell'=true:=by
  obtain ⟨v,rfl,A,n,rfl,_⟩:=h
  exact Iu rfl
theorem bk_acc {G:Ghost} {css:List (List Value)} {f:Bw} {nv:List Int} {k:Nat} {c:List Value} (h:Pu G css (tS f nv k)) (hk:k<f.nodes.length) (hc:css[k]?=some c):Pu G (css.set k (c.set 1 (Vi (nv.getD k 0)))) (tS f nv (k+1)):=by
  obtain ⟨c',hc',u,e,hu⟩:=Cj.get k h.1 (by rw [Mt];exact hk)
  rw [hc] at hc'
  injection hc' with hc'
  have hx:(tS f nv k)[k]'(by rw [Mt];exact hk)=f.nodes[k]:=by unfold tS;rw [List.getElem_mapIdx,if_neg (Nat.lt_irrefl _)]
  rw [hx] at e hu
  rw [bkS_succ hk]
  refine ⟨Cj.put h.1 ⟨u,by rw [hc',e];rfl,hu⟩,aZ h.2 ?_⟩
  rw [hc',e];rfl
theorem back_ok {G:Ghost} {Ap An Ae Ar:Option Addr} {cp cn ce cr:Nat} {f:Bw} {Au:Option Addr} {cu:Nat} {nv:List Int} (hf:Hb G Ap An Ae Ar cp cn ce cr f) (hu:Bt G (.slice Au nv.length cu) nv) (hk:eB f nv) :
  Ai prog 26 [.agg #[.slice Ap f.progs.length cp,.slice An f.nodes.length cn,.slice Ae f.edges.length ce,.slice Ar f.routes.length cr,.slice Au nv.length cu]] G [] fun r G' H'=>H'=[]∧∃ An' Au' cn' cu',r=.agg #[.slice Ap f.progs.length cp,.slice An' f.nodes.length cn',.slice Ae f.edges.length ce,.slice Ar f.routes.length cr,.slice Au' f.nodes.length cu']∧Hb G' Ap An' Ae Ar cp cn' ce cr (Vu f nv)∧Bt G' (.slice Au' f.nodes.length cu') (Tn f):=by
 have hnz:=hk.g.z.n
 have hnl:=hk.n
 obtain ⟨css0,hSn,hAn0,hkn0⟩:=id hf.n
 have hAc:Pu G css0 f.nodes:=⟨hAn0,hkn0⟩
 clear hAn0 hkn0
 refine Ai.of_T [(0,_)] func26 rfl ntmps26 sM rfl fun w0 hs=>?_
 have hf0:=hf
 have hu0:=hu
 have hSn0:=hSn
 have hAc0:=hAc
 refine Wt 2 [] hs rfl<|O_s (Sb hs rfl fun b1 _ hs=>O_s (Sa hs zeroValue45 rfl fun b2 _ hs=>Wp 5 [0,0,1] hs rfl<|Zy hs (Ba zeroValue45 rfl PL45 rfl (cs:=[_,_,_,_,_]) rfl<|O_s (Sa hs zeroValue45 rfl fun b3 _ hs=>O_n (Sg hs rfl (rfl) fun _ hs=>Wp 3 [0] hs rfl<|O_s (Se hs zeroValue76 rfl fun v1 _ hs shl=>?_))))))
 obtain ⟨bl8,rfl⟩:=shl
 refine Wp 3 [0,1,3] hs rfl<|O_s (Bf hs underlying39 TI76 rfl dC rfl rfl (hSn) (jU (fun _ _ h=>nodr_one h) hAc.1) oM Nj fun v2 _ hs =>Wp 2 [0,1] hs rfl<|O_n (Sd hs.f1 rfl (hs.f1.rowOne 1 rfl) fun _ hs=>Wp 6 [0,0] hs rfl ?_))
 have hs:=hs.nilRow 3 1
 have hs:=hs.f3.f4.f3.f3.f4
 refine Zl [1,2,3,4] (fun m E w=>∃ (k:Nat) (vn vw:Value) (css:List (List Value)) (G2:Ghost),k≤f.nodes.length∧Pu G2 css (tS f nv k)∧m=f.nodes.length-k∧E=⟨[],[(1,Vp b1),(2,Vp b2),(3,Vp b3),(4,Vi (k:Int))]⟩∧St ⟨w0,G,Bl []⟩ G2 [.row 76 4 vn f.nodes.length css.flatten,.row 3 1 vw k (((Tn f).take k).map (.int .i64)),.blk b3 45 [.slice Ap f.progs.length cp,vn,.slice Ae f.edges.length ce,.slice Ar f.routes.length cr,vw],.blk b1 45 [.slice Ap f.progs.length cp,.slice An f.nodes.length cn,.slice Ae f.edges.length ce,.slice Ar f.routes.length cr,.slice Au nv.length cu],.blk b2 45 [Vn,Vn,Vn,Vn,Vn]] w) rfl (⟨0,v2,Vn,css0,_,by omega,by rw [bkS_zero];exact hAc,rfl,rfl,Bz hs sM⟩) fun m E w hI=>?_
 obtain ⟨k,vn,vw,css,G2,hkl,hAN,rfl,rfl,hs⟩:=hI
 have hf:=hf0.mono hs.le
 have hu:=hu0.mono hs.le
 refine Wt 7 [4,3] hs rfl<|Zy hs (Yc rfl (fun h19=>?_) fun h19=>?_)
 ·
  refine Wp 6 [0] hs rfl<|Bc [0,1,2,3,4,5,6,7,8,9] hs kR ?_
  replace hs:=hs.drew
  refine Xr [0,1,2,3,4,5] [4,2,0,1,3] hs rfl<|Xt 6 hs rfl (Bv hf.n (k) underlying39 sizeOf76 rfl rfl rfl oM fun p28 c28 hp28 hc28 hR28=>?_)
  obtain ⟨u28,rfl,hv28⟩:=hR28
  obtain ⟨Av28,cv28,rfl,_⟩:=id hv28
  refine Xt 7 hs rfl (Jq O76_1.p rfl<|Xt 8 hs rfl (Yg rfl (hp28 1 _ rfl) ?_))
  have hle:=hs.le
  refine Xo 9 rfl (Se hs zeroValue3 rfl fun v3 _ hs _=>?_)
  obtain ⟨_,hG31,hl31,hs⟩:=hs.fixRow noM
  replace hu:=hu.mono hG31
  replace hAN:=hAN.mono hG31
  refine Am hs hle hG31 (lSr _)<|Xa 10 rfl (Bf hs.f1 underlying33 Lb rfl dC rfl rfl (hl31) (Fj rfl) oM Nj fun v4 _ hs =>Xa 11 rfl (S_y hs rfl (Yf 4 rfl<|Xn 12 rfl (Sd hs.f2 rfl (hs.f2.rowOne 1 rfl) fun _ hs=>Xe (Zk [1,2,3,4] rfl ?_)))))
  obtain ⟨bn,cn2,rfl,_⟩:=hs.rowForm 2 rfl oM
  obtain ⟨ck,hck,_⟩:=Cj.get k hAN.1 (by rw [Mt];omega)
  have hs:=hs.f2
  have hsW:=hs.drop
  refine Bc [0,1,2,3,4,5,6,7,8,9,10,11] hsW kR ?_
  replace hs:=hs.drew
  replace hsW:=hsW.drew
  refine Xr [0,1,2,3,4,5,6] [0,1,0,4,2] hsW rfl<|Xt 7 hsW rfl (Dl hu k underlying33 sizeOf3 rfl rfl rfl oM fun p41 hp41 =>Xt 8 hsW rfl (Yg rfl (hp41)<|Xt 9 hsW rfl (Cy k underlying39 sizeOf76 rfl rfl rfl oM<|Xt 10 hsW rfl (Yf (k*4+1) rfl ?_))))
  have hle:=hs.le
  refine Xm 11 rfl (Kh hs sizeOf3 rfl rfl rfl oM fun _ hs=>?_)
  rw [Ka hAN.2 hck dC] at hs
  have hsW:=hs.drop
  refine Am hsW hle (gLr _) (lSr _)<|Xe (Zk [1,2,3,4] rfl<|Wu 2 [] hs rfl<|Zy hs (Ya (s:=((k+1:Nat):Int)) rfl<|Wp 1 [] hs rfl ?_))
  have hs:=hs.f4.f4.f3.f4.f4
  have hgk:nv.getD k 0=nv[k]'oM:=Ms oM
  rw [← hgk] at hs
  refine Zx [1,2,3,4] rfl ⟨k+1,(Vs bn f.nodes.length cn2),v4,_,_,by omega,bk_acc hAN oM hck,rfl,rfl,Bz (hs.weak hs.le (gLr _) (lSa [_,_,_,_,_] _)) (by rw [List.take_add_one,bkV_get (show k<f.nodes.length by omega),List.map_append];rfl)⟩
 refine Wp 3 [0] hs rfl ?_
 obtain rfl:k=f.nodes.length:=by omega
 have hsN:=hs.fixRow noM
 clear hs
 obtain ⟨_,hG_hfn,hfn,hs⟩:=hsN
 replace hf:=hf.mono hG_hfn
 replace hAN:=hAN.mono hG_hfn
 have hsN:=hs.fixRow noM
 clear hs
 obtain ⟨_,hG_hfw,hfw,hs⟩:=hsN
 replace hf:=hf.mono hG_hfw
 replace hAN:=hAN.mono hG_hfw
 replace hfn:=hfn.mono hG_hfw
 have hN2:=hAN.fin hfn Mt.symm
 have hV2:Bt _ vw (Tn f):=Ww hfw (by simp [Tn]) (by rw [List.take_of_length_le (by simp [Tn])])
 clear hfn hfw
 obtain ⟨An',cn',rfl⟩:=Be.slice hN2
 obtain ⟨Au',cu',rfl,_⟩:=id hV2
 rw [Mt] at hN2
 have hvl:(Tn f).length=f.nodes.length:=by simp [Tn]
 rw [hvl] at hV2
 rw [Mt,hvl] at hs
 refine Wu 3 [0] hs rfl<|O_n (Sg hs.f2 rfl (rfl) fun _ hs=>Wp 1 [0] hs rfl<|Ah<|Zz results26 (Rb 0 hs rfl rF) ?_)
 exact ⟨_,[],hs.done,rfl,An',Au',cn',cu',rfl,⟨hf.p,by rw [Km];exact hN2,hf.e,hf.r⟩,hV2⟩
theorem qR {f:Bw}:(Tn f).length=f.nodes.length:=by unfold Tn;simp
theorem backx_ok {G:Ghost} {Ap An Ae Ar:Option Addr} {cp cn ce cr:Nat} {f:Bw} {Au:Option Addr} {cu:Nat} {nv:List Int} (hf:Hb G Ap An Ae Ar cp cn ce cr f) (hu:Bt G (.slice Au nv.length cu) nv) (hk:eB f nv) :
    Ai prog 26 [.agg #[.slice Ap f.progs.length cp,.slice An f.nodes.length cn,.slice Ae f.edges.length ce,.slice Ar f.routes.length cr,.slice Au nv.length cu]] G [] fun r G' H'=>H'=[]∧∃ f2 Ni An2 Au2 cn2 cu2,f2=Vu f nv∧Ni=Tn f∧r=.agg #[.slice Ap f2.progs.length cp,.slice An2 f2.nodes.length cn2,.slice Ae f2.edges.length ce,.slice Ar f2.routes.length cr,.slice Au2 Ni.length cu2]∧Hb G' Ap An2 Ae Ar cp cn2 ce cr f2∧Bt G' (.slice Au2 Ni.length cu2) Ni :=
  (back_ok hf hu hk).mono fun r G' H' _ ⟨h0,An',Au',cn',cu',hr,hF,hV⟩=>⟨h0,_,_,An',Au',cn',cu',rfl,rfl,by rw [hr,Km,qR];rfl,hF,by rw [qR];exact hV⟩
theorem rev_take {o:List Nat} {k:Nat} (h:k<o.length):o.reverse.take (k+1)=o.reverse.take k++[o[o.length-1-k]'oM]:=by
  rw [List.take_add_one,List.getElem?_reverse h,List.getElem?_eq_getElem oM];rfl
theorem kN {α β:Type} {g:α→List β} {m:Nat}:∀ {l:List α},(∀ x∈l,(g x).length≤m)→(l.flatMap g).length≤l.length*m
  | [],_=>by simp
  | a::l,h=>by
    rw [List.flatMap_cons,List.length_append,List.length_cons,Nat.succ_mul]
    have:=h a List.mem_cons_self
    have:=kN (l:=l) fun x hx=>h x (List.mem_cons_of_mem _ hx)
    omega
theorem ned_cnt {f:Bw} {nv u:List Int} {o:List Nat} {cl:List Int} {q:List (Int×Int)} (hn:q.Nodup) (hm:∀ p,p∈q↔bL f nv u o cl (Rd f nv o).length p) (ho:o.length≤6) (hu:u.length≤12):q.length≤84:=by
  have h1:=nd_le (m:=(Rd f nv o).flatMap fun x=>u.map (qJ f x)) hn fun p hp=>by
    obtain ⟨x,hx,e,he,_,rfl⟩:=gG.1 ((hm p).1 hp)
    exact List.mem_flatMap.2 ⟨x,hx,List.mem_map.2 ⟨e,he,rfl⟩⟩
  have h2:=kN (g:=fun x=>u.map (qJ f x)) (m:=u.length) (l:=Rd f nv o) fun x _=>by rw [List.length_map];exact Nat.le_refl _
  have h3:(Rd f nv o).length=o.length+1:=by unfold Rd;exact fX _ _ _
  rw [h3] at h2
  have:=Nat.mul_le_mul (show o.length+1≤7 by omega) hu
  omega
theorem qS {f:Bw} {nv:List Int} {o:List Nat} (h:o.Perm (Ee f nv)):o∈Hh (Ee f nv).length [] (Ee f nv):=bH _ [] _ o rfl h
theorem qT {f:Bw} {nv:List Int} {o:List Nat} (h:o∈Hh (Ee f nv).length [] (Ee f nv)):o.Perm (Ee f nv):=by
  obtain ⟨q,hq0,hq⟩:=Tl _ [] _ o rfl h
  obtain rfl:o=q:=hq0
  exact hq
theorem bk_cnt {f:Bw} {nv u:List Int} {s:List (List Bool)} {o o2:List Nat} (h:o.Perm (Ee f nv)) (hm:∀ x∈Hh (Ee f nv).length [] (Ee f nv),(Ho f nv s u o).length≤(Ho f nv s u x).length)
    (h2:o2.Perm (Ee (Vu f nv) (Tn f))) (hm2:∀ x∈Hh (Ee (Vu f nv) (Tn f)).length [] (Ee (Vu f nv) (Tn f)),(Ho (Vu f nv) (Tn f) s u o2).length≤(Ho (Vu f nv) (Tn f) s u x).length) :
    (Ho f nv s u o).length=(Ho (Vu f nv) (Tn f) s u o2).length:=by
  have k1:=hm2 o.reverse (qS ((List.reverse_perm o).trans (by rw [gF];exact h)))
  rw [bk_cl h] at k1
  have h3:o2.reverse.Perm (Ee f nv):=(List.reverse_perm o2).trans (by rw [← gF];exact h2)
  have k2:=hm o2.reverse (qS h3)
  have k3:=bk_cl (s:=s) (u:=u) h3
  rw [List.reverse_reverse] at k3
  rw [← k3] at k2
  omega
end Go.Proofs.YtngdgnolkilheaaGreatDoor
