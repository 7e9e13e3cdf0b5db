/- Part 9 of the walk through the functions that the laws of package fleet call: each function's contract, without conditions but those that its statement names. -/
import Derived.Test.YtngdgnolkilheaaGreatDoorMH
set_option maxHeartbeats 4000000
set_option maxRecDepth 10000
set_option linter.unusedVariables false
set_option linter.unusedSimpArgs false
set_option linter.unusedSectionVars false
namespace Go.Proofs.YtngdgnolkilheaaGreatDoor
open Go Go.Ex Go.RowKit Go.Proofs.Tryz
open Pl
open Pl
def Ig (f:Cg):List Int:=f.nodes.map fun x=>(x.vers[x.runs.toNat]?).getD 0
def fW (f:Cg) (nv:List Int):List Int:=(List.range f.nodes.length).map fun i=>match f.nodes[i]? with | some x=>(x.vers[(nv.getD i 0).toNat]?).getD 0 | none=>0
def nD (f:Cg) (e:Int):Nat×Nat:=match f.edges[e.toNat]? with | some p=>(p.1.toNat,p.2.toNat) | none=>(0,0)
def My (s:List (List Bool)) (a b:Int):Bool:=(s.getD a.toNat []).getD b.toNat false
def gJ (f:Cg) (nv:List Int) (i:Nat):Bool:=decide (¬ nv.getD i 0=(f.nodes.map (·.runs)).getD i 0)
def Ip (f:Cg) (nv:List Int):List Nat:=(List.range f.nodes.length).filter (gJ f nv)
structure kE (f:Cg) (nv:List Int):Prop where
  g:FOk f
  c:Dm f=0
  n:nv.length=f.nodes.length
  v:∀ i,(h:i<f.nodes.length)→0≤nv.getD i 0∧nv.getD i 0<f.nodes[i].vers.length
  u:(Ip f nv).length≤6
  r:(fF f).length≤12
theorem Mc {f:Cg} {nv:List Int} {k:Nat}:(List.range (k+1)).filter (gJ f nv)=(List.range k).filter (gJ f nv)++if gJ f nv k=true then [k] else []:=by
  rw [List.range_succ,List.filter_append]
  congr 1
  cases h:gJ f nv k<;>simp [h]
theorem fX {f:Cg} {nv:List Int} {k:Nat} (h:k<f.nodes.length) (hn:nv.length=f.nodes.length):gJ f nv k=decide (¬ nv[k]'oM=f.nodes[k].runs):=by
  unfold gJ
  rw [List.getD_eq_getElem?_getD,List.getElem?_eq_getElem oM,List.getD_eq_getElem?_getD,List.getElem?_map,List.getElem?_eq_getElem h];rfl
theorem Iq {f:Cg}:(Ig f).length=f.nodes.length:=List.length_map _
theorem kF {f:Cg} {k:Nat} (h:k<f.nodes.length) (h2:0≤f.nodes[k].runs∧f.nodes[k].runs<f.nodes[k].vers.length):(Ig f)[k]'(by rw [Iq];exact h)=f.nodes[k].vers[f.nodes[k].runs.toNat]'oM:=by
  unfold Ig
  rw [List.getElem_map,List.getElem?_eq_getElem oM];rfl
theorem zD {f:Cg} {nv:List Int} {k:Nat} (h:k<f.nodes.length) (h2:0≤nv.getD k 0∧nv.getD k 0<f.nodes[k].vers.length):(fW f nv).getD k 0=f.nodes[k].vers[(nv.getD k 0).toNat]'oM:=by
  unfold fW
  rw [List.getD_eq_getElem?_getD,List.getElem?_map,List.getElem?_range h,Option.map_some,Option.getD_some,List.getElem?_eq_getElem h]
  show (f.nodes[k].vers[(nv.getD k 0).toNat]?).getD 0=_
  rw [List.getElem?_eq_getElem oM];rfl
theorem La {l:List Int} {k:Nat} (h:k<l.length):l.getD k 0=l[k]:=by rw [List.getD_eq_getElem?_getD,List.getElem?_eq_getElem h];rfl
def RxI (G:Ghost) (v:List Value) (x:List Int):Prop:=∃ u,v=[u]∧Bt G u x
def RxN (G:Ghost) (v:List Value) (x:List Nat):Prop:=∃ u,v=[u]∧Cc G u x
def fY (f:Cg) (nv:List Int) (o:List Nat):List (List Int):=Mx (fW f nv) (Ig f) o
def Kr (f:Cg) (nv:List Int) (s:List (List Bool)) (u:List Int) (o:List Nat):List Int:=clF (fW f nv) (nD f) (My s) u (Ig f) o
theorem Pp {G:Ghost} {v:Value} {n:Nat} {xs:List Value} {l:List Int} (h:Sl G v 1 n xs) (hn:n=l.length) (hx:xs=l.map (.int .i64)):Bt G v l:=by
  subst hn;subst hx;exact h
theorem fZ {G:Ghost} {Ap An Ae Ar:Option Addr} {cp cn ce cr:Nat} {f:Cg} {Au:Option Addr} {cu:Nat} {nv:List Int} (hf:Ho G Ap An Ae Ar cp cn ce cr f) (hu:Bt G (.slice Au nv.length cu) nv) (hz:sU f) (hn:nv.length=f.nodes.length) :
  Ai prog 30 [.agg #[.slice Ap f.progs.length cp,.slice An f.nodes.length cn,.slice Ae f.edges.length ce,.slice Ar f.routes.length cr,.slice Au nv.length cu]] G [] fun r G' H'=>H'=[]∧Cc G' r (Ip f nv):=by
 have hnz:=hz.n
 refine Ai.of_T [(0,_)] func30 rfl ntmps30 sM rfl fun w0 hs=>?_
 have hf0:=hf
 have hu0:=hu
 refine Wt 2 [] hs rfl<|O_s (Sb hs rfl fun b1 _ hs=>Wp 15 [0,0,0,1,0,0] hs rfl ?_)
 have hs:=hs.nilRow 3 1
 have hs:=hs.f1.f1
 refine Zl [1,3,8,9,10] (fun m E w=>∃ (k:Nat) (v3:Value) (G2:Ghost),k≤f.nodes.length∧m=f.nodes.length-k∧E=⟨[],[(1,Vp b1),(3,v3),(8,.slice An f.nodes.length cn),(9,Vi ((f.nodes.length:Nat):Int)),(10,Vi (k:Int))]⟩∧St ⟨w0,G,Bl []⟩ G2 [.row 3 1 v3 ((List.range k).filter (gJ f nv)).length (((List.range k).filter (gJ f nv)).map Co),.blk b1 45 [.slice Ap f.progs.length cp,.slice An f.nodes.length cn,.slice Ae f.edges.length ce,.slice Ar f.routes.length cr,.slice Au nv.length cu]] w) rfl (⟨0,_,_,by omega,rfl,rfl,hs⟩) fun m E w hI=>?_
 obtain ⟨k,v3,G2,hk,rfl,rfl,hs⟩:=hI
 have hf:=hf0.mono hs.le
 have hu:=hu0.mono hs.le
 refine Wt 2 [] hs rfl<|Zy hs (Yc rfl (fun h11=>?_) fun h11=>?_)
 ·
  refine Wp 9 [0] hs rfl<|Zy hs (Bp hf.n (k) underlying39 sizeOf76 rfl rfl rfl oM fun p13 c13 hp13 hc13 hR13=>?_)
  obtain ⟨u13,rfl,hv13⟩:=hR13
  obtain ⟨Av13,cv13,rfl,_⟩:=id hv13
  refine Zy hs (Cy (vs:=[.slice Av13 f.nodes[k].vers.length cv13,Vi f.nodes[k].runs,Vi f.nodes[k].claims,.bool f.nodes[k].up]) isAgg76 sizeOf76 rfl hp13 rfl<|O_s (Sa hs zeroValue76 rfl fun b5 _ hs=>Wp 1 [] hs rfl<|O_n (Em hs sizeOf76 rfl rfl (vs:=[_,_,_,_]) rfl (rfl) sM (cs':=[_,_,_,_]) rfl fun _ hs =>Wp 1 [0] hs rfl ?_)))
  have hkl:((List.range k).filter (gJ f nv)).length≤k:=by have:=List.length_filter_le (gJ f nv) (List.range k);simpa using this
  refine Wu 1 [] hs rfl<|Bb [0,1,2,3,4,5,6,7] hs kR ?_
  replace hs:=hs.drew
  refine Xr [0,1,2] [4,2] hs rfl<|Xt 3 hs rfl (Dd hu k underlying33 sizeOf3 rfl rfl rfl oM fun p18 hp18 =>Xt 4 hs rfl (Yg rfl (hp18)<|Xr [5,6] [1,0] hs rfl<|Xt 7 hs rfl (Jd rfl rfl rfl (fun h22=>?_) (fun h22=>?_))))
  ·
   dsimp only [Gq] at h22
   refine Xe (Zk [1,3,4,8,9,10,22] rfl<|Wu 4 [] hs rfl<|O_s (Bw hs underlying33 sizeOf3 zeroValue3 rfl rfl dC dC rfl (cs:=[_]) rfl rfl fun v1 _ hs _=>?_))
   obtain ⟨_,hG25,hl25,hs⟩:=hs.fixRow noM
   refine O_s (Bf hs.f1 underlying33 Ko rfl dC rfl rfl (hl25) (Fh rfl) oM oM fun v2 _ hs =>Wp 3 [0] hs rfl<|Zy hs (Ya (s:=((k+1:Nat):Int)) rfl<|Wp 1 [] hs rfl ?_))
   have hs:=hs.f2.f1
   have hq:=fX (nv:=nv) (show k<f.nodes.length by omega) hn
   refine Zx [1,3,8,9,10] rfl ⟨k+1,_,_,by omega,rfl,rfl,Bz (hs.weak hs.le (Cj _) (Ea [_,_] _)) (by rw [Mc,hq];simp [h22])⟩
  dsimp only [Gq] at h22
  refine Xe (Zk [1,3,4,8,9,10,22] rfl<|Wu 3 [] hs rfl<|Zy hs (Ya (s:=((k+1:Nat):Int)) rfl<|Wp 1 [] hs rfl ?_))
  have hs:=hs.f2.f2
  have hq:=fX (nv:=nv) (show k<f.nodes.length by omega) hn
  refine Zx [1,3,8,9,10] rfl ⟨k+1,_,_,by omega,rfl,rfl,Bz (hs.weak hs.le (Cj _) (Ea [_,_] _)) (by rw [Mc,hq];simp [h22])⟩
 refine Wp 4 [0] hs rfl<|Wu 5 [0] hs rfl<|Ah ?_
 obtain rfl:k=f.nodes.length:=by omega
 obtain ⟨_,hG_hfr,hfr,hs⟩:=hs.fixRow noM
 refine Zz results30 rfl ?_
 exact ⟨_,[],hs.done,rfl,by simpa [Cc,Ip] using hfr⟩
theorem qB {G:Ghost} {Ao:Option Addr} {no co:Nat} {Ap An Ae Ar:Option Addr} {cp cn ce cr:Nat} {f:Cg} {Au:Option Addr} {cu:Nat} {nv:List Int} :
  Ai prog 41 [.agg #[.slice Ap f.progs.length cp,.slice An f.nodes.length cn,.slice Ae f.edges.length ce,.slice Ar f.routes.length cr,.slice Au nv.length cu],.slice Ao no co] G [] fun r G' H'=>H'=[]∧∃ bu bo,r=.func (.func 64) #[] #[Vp bu,Vp bo]∧Bs G' bu [.slice Ap f.progs.length cp,.slice An f.nodes.length cn,.slice Ae f.edges.length ce,.slice Ar f.routes.length cr,.slice Au nv.length cu]∧Bs G' bo [.slice Ao no co]:=by
 refine Ai.of_T [(0,_),(1,_)] func41 rfl ntmps41 sM rfl fun w0 hs =>Wt 2 [] hs rfl<|O_s (Sb hs rfl fun b2 _ hs=>O_s (Sb hs rfl fun b3 _ hs=>Wp 4 [0] hs rfl<|Zy hs (Dr (vs:=[_,_]) rfl<|Wp 2 [0] hs rfl<|Ah ?_)))
 have hs:=hs.f1
 obtain ⟨_,hGbhQu,hQu,hs⟩:=hs.fixBlk (fun k _=>Hv k)
 replace hQu:Bs _ b2 _:=hQu
 obtain ⟨_,hGbhQo,hQo,hs⟩:=hs.fixBlk (fun k _=>Hv k)
 replace hQu:=hQu.mono hGbhQo
 replace hQo:Bs _ b3 _:=hQo
 refine Zz results41 rfl ?_
 exact ⟨_,[],hs.done,rfl,_,_,rfl,hQu,hQo⟩
theorem sta1_ok {G:Ghost} {bu bo:Nat} {Ao:Option Addr} {co:Nat} {o:List Nat} {Ap An Ae Ar:Option Addr} {cp cn ce cr:Nat} {f:Cg} {Au:Option Addr} {cu:Nat} {nv:List Int} (hf:Ho G Ap An Ae Ar cp cn ce cr f) (hu:Bt G (.slice Au nv.length cu) nv) (hz:sU f) (hC:Dm f=0) (hn:nv.length=f.nodes.length) (hv:∀ i,(h:i<f.nodes.length)→0≤nv.getD i 0∧nv.getD i 0<f.nodes[i].vers.length) (hb:Bs G bu [.slice Ap f.progs.length cp,.slice An f.nodes.length cn,.slice Ae f.edges.length ce,.slice Ar f.routes.length cr,.slice Au nv.length cu]) (hbo:Bs G bo [.slice Ao o.length co]) (hoN:Cc G (.slice Ao o.length co) o) (hol:o.length≤1000) (ho:∀ i∈o,i<f.nodes.length)
  {lp:Nat} {H0:List Res} {J:Nat→Ghost→List Res→Prop} {K:Ghost→List Res→Prop} (hJm:∀ n G1 G2 H,Ghost.le G1 G2→J n G1 H→J n G2 H) (hKm:∀ G1 G2 H,Ghost.le G1 G2→K G1 H→K G2 H)
  (hY:∀ n x v G' H',(fY f nv o)[n]?=some x→RxI G' v x→G.le G'→J n G' H'→Dp prog lp v G' H' fun b G'' H''=>(b=Vt∧J (n+1) G'' H''∧Hq H' H'')∨(b=Vf∧K G'' H'')) (hJ0:J 0 G H0) :
  Ai prog 64 [.func (.yield lp) #[] #[],Vp bu,Vp bo] G H0 fun _ G' H'=>J (fY f nv o).length G' H'∨K G' H':=by
 obtain ⟨hc0,hc1,hcn,hce,hcr⟩:=Qw hC
 have hnz:=hz.n
 refine Ai.of_T [(0,_),(1,_),(2,_)] func64 rfl ntmps64 sM rfl fun w0 hs=>?_
 have hf0:=hf
 have hu0:=hu
 have hb0:=hb
 have hbo0:=hbo
 have hoN0:=hoN
 have hfe:=Hq.refl H0
 refine Wt 9 [0,0,1] hs rfl<|Zy hs (Yg rfl (hb 1 (.slice An f.nodes.length cn) rfl)<|Wp 3 [0] hs rfl ?_)
 have hs:=hs.nilRow 3 1
 refine Zl [0,1,2,4,11,12,13] (fun m E w=>∃ (k:Nat) (v4:Value) (G2:Ghost),k≤f.nodes.length∧J 0 G2 H0∧m=f.nodes.length-k∧E=⟨[],[(0,.func (.yield lp) #[] #[]),(1,Vp bu),(2,Vp bo),(4,v4),(11,.slice An f.nodes.length cn),(12,Vi ((f.nodes.length:Nat):Int)),(13,Vi (k:Int))]⟩∧St ⟨w0,G,Bl H0⟩ G2 (.row 3 1 v4 k (((Ig f).take k).map (.int .i64))::H0) w) rfl (⟨0,_,_,by omega,hJm _ _ _ _ hs.le hJ0,rfl,rfl,hs⟩) fun m E w hI=>?_
 obtain ⟨k,v4,G2,hk,hJ,rfl,rfl,hs⟩:=hI
 have hf:=hf0.mono hs.le
 have hu:=hu0.mono hs.le
 have hb:=hb0.mono hs.le
 have hbo:=hbo0.mono hs.le
 have hoN:=hoN0.mono hs.le
 have hlg:=Tm.refl G2
 refine Wt 2 [] hs rfl<|Zy hs (Yc rfl (fun h14=>?_) fun h14=>?_)
 ·
  refine Wp 8 [0] hs rfl<|Zy hs (Bp hf.n (k) underlying39 sizeOf76 rfl rfl rfl oM fun p15 c15 hp15 hc15 hR15=>?_)
  obtain ⟨u15,rfl,hv15⟩:=hR15
  obtain ⟨Av15,cv15,rfl,_⟩:=id hv15
  refine Zy hs (Cy (vs:=[.slice Av15 f.nodes[k].vers.length cv15,Vi f.nodes[k].runs,Vi f.nodes[k].claims,.bool f.nodes[k].up]) isAgg76 sizeOf76 rfl hp15 rfl<|O_s (Sa hs zeroValue76 rfl fun b6 _ hs=>O_n (Sg hs rfl (rfl) fun _ hs=>Wp 1 [0] hs rfl ?_)))
  have hrk:=(Ot (List.all_eq_true.1 hcn _ (List.getElem_mem (show k<f.nodes.length by omega)))).2.2.2.1
  refine Wu 6 [0,0,1,0] hs rfl<|Zy hs (Dd hv15 f.nodes[k].runs.toNat underlying33 sizeOf3 rfl rfl oM oM fun p22 hp22=>?_)
  rw [← kF oM hrk] at hp22
  refine Zy hs (Yg rfl (hp22)<|O_s (Se hs zeroValue3 rfl fun v1 _ hs _=>?_))
  obtain ⟨_,hG24,hl24,hs⟩:=hs.fixRow (eJ hs hfe.tl.tl)
  replace hlg:=hlg.mono hG24
  have hs:=hs.front 1 rfl (H':=(_::_::H0)) rfl
  refine O_s (Bf hs underlying33 Ko rfl dC rfl rfl (hl24) (Fh rfl) oM Lk fun v2 _ hs =>Wp 3 [0] hs rfl<|Zy hs (Ya (s:=((k+1:Nat):Int)) rfl<|Wp 1 [] hs rfl ?_))
  have hs:=hs.front 1 rfl (H':=(_::_::H0)) rfl
  have hs:=hs.drop
  refine Zx [0,1,2,4,11,12,13] rfl ⟨k+1,_,_,by omega,hJm _ _ _ _ hlg hJ,rfl,rfl,Bz hs (by rw [Ed (by rw [Iq];omega),List.map_append];rfl)⟩
 refine Wp 4 [0] hs rfl ?_
 obtain rfl:k=f.nodes.length:=by omega
 rw [show (Ig f).take f.nodes.length=Ig f from List.take_of_length_le (by rw [Iq];omega)] at hs
 obtain ⟨_,hG_hx00,hx00,hs⟩:=hs.fixRow (eJ hs hfe)
 replace hf:=hf.mono hG_hx00
 replace hu:=hu.mono hG_hx00
 replace hb:=hb.mono hG_hx00
 replace hbo:=hbo.mono hG_hx00
 replace hoN:=hoN.mono hG_hx00
 replace hlg:=hlg.mono hG_hx00
 have hx0:Bt _ v4 (Ig f):=Pp hx00 Iq.symm rfl
 refine Wu 5 [] hs rfl<|O_s (Ls (H1:=H0) (H:=[]) Z39 rfl rfl (hY 0 _ _ _ _ (fU _ _ _) ⟨_,rfl,hx0⟩ hs.le (hJm _ _ _ _ hlg hJ)) fun v G'' H'' w' hR hG29 hs=>?_)
 rcases hR with ⟨rfl,hJ,hC⟩ | ⟨rfl,hK⟩
 ·
  rw [List.append_nil] at hs
  replace hfe:=Hq.trans hfe hC
  replace hf:=hf.mono hG29
  replace hu:=hu.mono hG29
  replace hb:=hb.mono hG29
  replace hbo:=hbo.mono hG29
  replace hoN:=hoN.mono hG29
  replace hlg:=hlg.mono hG29
  replace hx0:=hx0.mono hG29
  refine Wp 6 [0] hs rfl<|Zy hs (Yg rfl (hbo 0 (.slice Ao o.length co) rfl)<|Wp 3 [0] hs rfl<|Zl [0,1,4,31,32,33] (fun m E w=>∃ (k:Nat) (x:List Int) (v4:Value) (G2:Ghost) (H'':List Res),k≤o.length∧(fY f nv o)[k]?=some x∧Bt G2 v4 x∧J (k+1) G2 H''∧Hq H0 H''∧m=o.length-k∧E=⟨[],[(0,.func (.yield lp) #[] #[]),(1,Vp bu),(4,v4),(31,.slice Ao o.length co),(32,Vi ((o.length:Nat):Int)),(33,Vi (k:Int))]⟩∧St ⟨w0,G,Bl H0⟩ G2 H'' w) rfl (⟨0,_,_,_,_,by omega,fU _ _ _,hx0,hJ,hfe,rfl,rfl,hs⟩) fun m E w hI=>?_)
  obtain ⟨k,x,v4,G2,H'',hk,hx,hxI,hJ,hfe,rfl,rfl,hs⟩:=hI
  have hf:=hf0.mono hs.le
  have hu:=hu0.mono hs.le
  have hb:=hb0.mono hs.le
  have hbo:=hbo0.mono hs.le
  have hoN:=hoN0.mono hs.le
  have hlg:=Tm.refl G2
  have hxl:=fV (fW f nv) o (Ig f) x (List.mem_of_getElem? hx)
  rw [Iq] at hxl
  refine Wt 2 [] hs rfl<|Zy hs (Yc rfl (fun h34=>?_) fun h34=>?_)
  ·
   refine Wp 8 [0] hs rfl<|Zy hs (Eu hoN k underlying33 sizeOf3 rfl rfl rfl oM fun p35 hp35 =>Zy hs (Yg rfl (hp35)<|Wp 5 [0] hs rfl<|O_s (Ew (H1:=[]) (H:=H'') hs rfl func32 rfl kR (pU hxI Rm oM) fun v3 G' H' _ hR hG38 hs=>?_)))
   obtain ⟨rfl,_⟩:=hR
   replace hs:St _ _ (_::H'') _:=hs
   replace hf:=hf.mono hG38
   replace hu:=hu.mono hG38
   replace hb:=hb.mono hG38
   replace hlg:=hlg.mono hG38
   refine Wp 2 [0] hs rfl ?_
   have hoi:=ho _ (List.getElem_mem (show k<o.length by omega))
   have hvi:=hv _ hoi
   refine Wu 1 [] hs rfl<|Bb [0,1,2,3,4,5,6,7,8,9,10,11,12,13,14,15,16] hs kR ?_
   replace hs:=hs.drew
   refine Xr [0,1,2,3] [0,1] hs rfl<|Xt 4 hs rfl (Yg rfl (hb 1 (.slice An f.nodes.length cn) rfl)<|Xr [5] [] hs rfl<|Xt 6 hs rfl (Bp hf.n ((o[k]'oM)) underlying39 sizeOf76 rfl rfl rfl oM fun p45 c45 hp45 hc45 hR45=>?_))
   obtain ⟨u45,rfl,hv45⟩:=hR45
   obtain ⟨Av45,cv45,rfl,_⟩:=id hv45
   refine Xt 7 hs rfl (Jr O76_0.p rfl<|Xt 8 hs rfl (Yg rfl (hp45 0 _ rfl)<|Xr [9] [4] hs rfl<|Xt 10 hs rfl (Yg rfl (hb 4 (.slice Au nv.length cu) rfl)<|Xr [11] [] hs rfl<|Xt 12 hs rfl (Dd hu (o[k]'oM) underlying33 sizeOf3 rfl rfl rfl oM fun p51 hp51=>?_))))
   rw [← La] at hp51
   refine Xt 13 hs rfl (Yg rfl (hp51)<|Xt 14 hs rfl (Dd hv45 (nv.getD (o[k]'oM) 0).toNat underlying33 sizeOf3 rfl rfl oM oM fun p53 hp53=>?_))
   rw [← zD hoi (hv _ hoi)] at hp53
   refine Xt 15 hs rfl (Yg rfl (hp53) ?_)
   obtain ⟨bz,cz,hzbz,_⟩:=hs.rowForm 0 rfl oM
   subst hzbz
   refine Xt 16 hs rfl (Bj ((o[k]'oM)) underlying33 sizeOf3 rfl rfl rfl oM<|Xn 17 rfl (Cu hs sizeOf3 rfl rfl rfl oM fun _ hs =>Xe (Zk [0,1,4,31,32,33] rfl ?_)))
   have hst':=qA (fW f nv) o (Ig f) k oM x hx
   obtain ⟨_,hG_hyr,hyr,hs⟩:=hs.fixRow (eJ hs hfe)
   replace hlg:=hlg.mono hG_hyr
   have hy:Bt _ _ (x.set (o[k]'oM) ((fW f nv).getD (o[k]'oM) 0)):=Pp hyr sM sM
   refine Wu 4 [] hs rfl<|O_s (Ls (H1:=H'') (H:=[]) Z39 rfl rfl (hY (k+1) _ _ _ _ hst' ⟨_,rfl,hy⟩ hs.le (hJm _ _ _ _ hlg hJ)) fun v G'' H'' w' hR hG58 hs=>?_)
   rcases hR with ⟨rfl,hJ,hC⟩ | ⟨rfl,hK⟩
   ·
    rw [List.append_nil] at hs
    replace hfe:=Hq.trans hfe hC
    replace hy:=hy.mono hG58
    refine Wp 5 [0] hs rfl<|Zy hs (Ya (s:=((k+1:Nat):Int)) rfl<|Wp 1 [] hs rfl<|Zx [0,1,4,31,32,33] rfl ⟨k+1,_,_,_,_,by omega,hst',hy,hJ,hfe,rfl,rfl,hs⟩)
   rw [List.append_nil] at hs
   refine Wp 3 [0] hs rfl<|Ah ?_
   refine Bi (vs:=[]) results64 rfl trivial ?_
   try dsimp only [tup]
   exact ⟨_,_,hs,.inr hK⟩
  refine Wp 4 [0] hs rfl ?_
  try dsimp only [Ex.At,Ex.sqs,Ex.sq,Ex.lp,Ex.bk]
  try rw [show Nat.beq _ _=true from Nat.beq_refl _,cond_true]
  refine Ff (vs:=[]) results64 rfl trivial ?_
  try dsimp only [tup]
  obtain rfl:k=o.length:=by omega
  exact ⟨_,_,hs,.inl (by rw [show (fY f nv o).length=o.length+1 from nC _ _ _];exact hJ)⟩
 rw [List.append_nil] at hs
 refine Wp 3 [0] hs rfl<|Ah ?_
 refine Bi (vs:=[]) results64 rfl trivial ?_
 try dsimp only [tup]
 exact ⟨_,_,hs,.inr hK⟩
theorem bG {G:Ghost} {bu bo:Nat} {Ao:Option Addr} {co:Nat} {o:List Nat} {Ap An Ae Ar:Option Addr} {cp cn ce cr:Nat} {f:Cg} {Au:Option Addr} {cu:Nat} {nv:List Int} (hf:Ho G Ap An Ae Ar cp cn ce cr f) (hu:Bt G (.slice Au nv.length cu) nv) (hz:sU f) (hC:Dm f=0) (hn:nv.length=f.nodes.length) (hv:∀ i,(h:i<f.nodes.length)→0≤nv.getD i 0∧nv.getD i 0<f.nodes[i].vers.length) (hb:Bs G bu [.slice Ap f.progs.length cp,.slice An f.nodes.length cn,.slice Ae f.edges.length ce,.slice Ar f.routes.length cr,.slice Au nv.length cu]) (hbo:Bs G bo [.slice Ao o.length co]) (hoN:Cc G (.slice Ao o.length co) o) (hol:o.length≤1000) (ho:∀ i∈o,i<f.nodes.length) :
    Vis prog 64 [Vp bu,Vp bo] RxI (fY f nv o) G:=fun lp H0 G0 J K hle hJm hKm hY hJ0 =>
  sta1_ok (hf.mono hle) (hu.mono hle) hz hC hn hv (hb.mono hle) (hbo.mono hle) (hoN.mono hle) hol ho hJm hKm hY hJ0
end Go.Proofs.YtngdgnolkilheaaGreatDoor
namespace Go.Proofs.YtngdgnolkilheaaGreatDoor
open Go Go.Ex Go.RowKit Go.Proofs.Tryz
open Pl
theorem zF {G:Ghost} {n:Nat} (hn:n≤1000000) :
  Ai prog 83 [Vn,Vi (n:Int)] G [] fun r _ H'=>H'=[.row 3 1 r 0 []]:=by
 refine Ai.of_T [(0,_),(1,_)] func83 rfl ntmps83 sM rfl fun w0 hs =>Wt 8 [0] hs rfl<|Zy hs (Cv rfl rfl rfl oM<|Wp 8 [0] hs rfl<|Zy hs (Y_cap underlying33 rfl<|Wp 2 [] hs rfl<|Zy hs (Fp (c:=0) rfl rfl oM oM<|Zy hs (Fp (c:=(n:Int)) rfl rfl oM oM<|Wp 5 [0] hs rfl<|Zy hs (Yc rfl (fun h16=>?_) fun h16=>?_)))))
 ·
  refine Wp 5 [0] hs rfl<|Zy hs (Y_cap underlying33 rfl<|Zy hs (Xl 0 underlying33 sizeOf3 rfl rfl rfl oM<|Wp 1 [] hs rfl<|O_s (qL hs underlying33 underlying3 Ko rfl rfl rfl oM oM oM fun bz cz xz _ hcz hs =>Wp 2 [] hs rfl<|Zy hs (Xl 0 underlying33 sizeOf3 rfl rfl rfl oM<|Wp 7 [1,0,0] hs rfl<|Ah<|Zz results83 rfl ?_))))
  have hs:=hs.rowTake (m:=0) oM
  exact ⟨_,_,hs,by simp⟩
 refine Wp 8 [0,0] hs rfl<|Ah<|Zz results83 rfl ?_
 exact ⟨_,_,hs.nilRow 3 1,rfl⟩
theorem fl_le {α:Type} {l:List (List α)} {k:Nat} (h:k<l.length):(l.take k).flatten.length+l[k].length≤l.flatten.length:=by
  conv=>rhs;rw [← List.take_append_drop k l,List.drop_eq_getElem_cons h]
  simp only [List.flatten_append,List.flatten_cons,List.length_append];omega
theorem qC {α:Type} {l:List (List α)} {k:Nat} (h:k<l.length):(l.take (k+1)).flatten=(l.take k).flatten++l[k]:=by
  rw [Ed h,List.flatten_append];simp
theorem coni_ok {G:Ghost} {A:Option Addr} {cap:Nat} {l:List (List Int)} (hl:Rts G (.slice A l.length cap) l) (hn:l.length≤1000000) (hm:l.flatten.length≤1000000) :
  Ai prog 55 [(.slice A l.length cap)] G [] fun r G' H'=>H'=[]∧Bt G' r l.flatten:=by
 refine Ai.of_T [(0,_)] func55 rfl ntmps55 sM rfl fun w0 hs=>?_
 have hl0:=hl
 refine Wt 15 [0,0,0] hs rfl<|Zl [0,3,9,10,11] (fun m E w=>∃ (k:Nat) (G2:Ghost),k≤l.length∧m=l.length-k∧E=⟨[],[(0,(.slice A l.length cap)),(3,Vi ((l.take k).flatten.length:Int)),(9,(.slice A l.length cap)),(10,Vi ((l.length:Nat):Int)),(11,Vi (k:Int))]⟩∧St ⟨w0,G,Bl []⟩ G2 [] w) rfl (⟨0,_,by omega,rfl,rfl,hs⟩) fun m E w hI=>?_
 obtain ⟨k,G2,hk,rfl,rfl,hs⟩:=hI
 have hl:=hl0.mono hs.le
 refine Wt 2 [] hs rfl<|Zy hs (Yc rfl (fun h12=>?_) fun h12=>?_)
 ·
  refine Wp 8 [0] hs rfl<|Zy hs (Bp hl (k) underlying41 sizeOf33 rfl rfl rfl oM fun p13 c13 hp13 hc13 hR13=>?_)
  obtain ⟨u13,rfl,hv13⟩:=hR13
  obtain ⟨Av13,cv13,rfl,_⟩:=id hv13
  refine Zy hs (Yg rfl (hp13 0 _ rfl)<|Wp 7 [0] hs rfl<|Zy hs (Ef (c:=(((l.take k).flatten.length+l[k].length:Nat):Int)) rfl rfl Z33 Z33<|Wp 5 [0] hs rfl<|Zy hs (Cv rfl rfl rfl oM<|Wp 4 [0] hs rfl<|Zy hs (Ya (s:=((k+1:Nat):Int)) rfl<|Wp 1 [] hs rfl<|Zx [0,3,9,10,11] rfl ⟨k+1,_,by omega,rfl,by rw [qC oM,List.length_append],hs⟩))))
 refine Wp 4 [0] hs rfl<|Wu 3 [] hs rfl<|O_s (Sc (zF (n:=(l.take k).flatten.length) (by rw [List.take_of_length_le oM];exact hm)) hs rfl fun v1 G' H' _ hR hG24 hs=>?_)
 obtain rfl:=hR
 replace hs:=hs.n rfl
 replace hl:=hl.mono hG24
 refine Wp 9 [0,0] hs rfl<|Zl [6,25,26,27] (fun m E w=>∃ (k:Nat) (v3:Value) (G2:Ghost),k≤l.length∧m=l.length-k∧E=⟨[],[(6,v3),(25,(.slice A l.length cap)),(26,Vi ((l.length:Nat):Int)),(27,Vi (k:Int))]⟩∧St ⟨w0,G,Bl []⟩ G2 [.row 3 1 v3 (l.take k).flatten.length ((l.take k).flatten.map (.int .i64))] w) rfl (⟨0,_,_,by omega,rfl,rfl,hs⟩) fun m E w hI=>?_
 obtain ⟨k,v3,G2,hk,rfl,rfl,hs⟩:=hI
 have hl:=hl0.mono hs.le
 refine Wt 2 [] hs rfl<|Zy hs (Yc rfl (fun h28=>?_) fun h28=>?_)
 ·
  refine Wp 8 [0] hs rfl<|Zy hs (Bp hl (k) underlying41 sizeOf33 rfl rfl rfl oM fun p29 c29 hp29 hc29 hR29=>?_)
  obtain ⟨u29,rfl,hv29⟩:=hR29
  obtain ⟨Av29,cv29,rfl,_⟩:=id hv29
  refine Zy hs (Yg rfl (hp29 0 _ rfl)<|Wp 5 [0] hs rfl<|O_s (Bf hs underlying33 Ko rfl dC rfl rfl (hv29) (Rm) Z33 Z33 fun v2 _ hs =>Wp 3 [0] hs rfl<|Zy hs (Ya (s:=((k+1:Nat):Int)) rfl<|Wp 1 [] hs rfl<|Zx [6,25,26,27] rfl ⟨k+1,_,_,by omega,rfl,rfl,by rw [qC oM,List.length_append,List.map_append];exact hs⟩)))
 refine Wp 4 [0] hs rfl<|Wu 5 [0] hs rfl<|Ah<|Zz results55 rfl ?_
 obtain rfl:k=l.length:=by omega
 rw [List.take_length] at hs
 obtain ⟨G',hG,hf,hs3⟩:=hs.fixRow noM
 exact ⟨G',[],hs3,rfl,hf⟩
theorem qD {G:Ghost} {Ap:Option Addr} {np cp:Nat} {Ar:Option Addr} {nr cr:Nat} :
  Ai prog 29 [.slice Ap np cp,.slice Ar nr cr] G [] fun r G' H'=>H'=[]∧∃ br bp,r=.func (.func 54) #[] #[Vp br,Vp bp]∧Bs G' bp [.slice Ap np cp]∧Bs G' br [.slice Ar nr cr]:=by
 refine Ai.of_T [(0,_),(1,_)] func29 rfl ntmps29 sM rfl fun w0 hs =>Wt 2 [] hs rfl<|O_s (Sb hs rfl fun b2 _ hs=>O_s (Sb hs rfl fun b3 _ hs=>Wp 4 [0] hs rfl<|Zy hs (Dr (vs:=[_,_]) rfl<|Wp 2 [0] hs rfl<|Ah ?_)))
 have hs:=hs.f1
 obtain ⟨_,hGbhQp,hQp,hs⟩:=hs.fixBlk (fun k _=>Hv k)
 replace hQp:Bs _ b2 _:=hQp
 obtain ⟨_,hGbhQr,hQr,hs⟩:=hs.fixBlk (fun k _=>Hv k)
 replace hQp:=hQp.mono hGbhQr
 replace hQr:Bs _ b3 _:=hQr
 refine Zz results29 rfl ?_
 exact ⟨_,[],hs.done,rfl,_,_,rfl,hQp,hQr⟩
theorem rts_two {G:Ghost} {v a b:Value} {l m:List Int} (h:Sl G v 1 2 [a,b]) (ha:Bt G a l) (hb:Bt G b m):Rts G v [l,m]:=⟨[[a],[b]],h,⟨⟨a,rfl,ha⟩,⟨b,rfl,hb⟩,trivial⟩,by simp⟩
theorem gA:∀ {f:Nat} {p l:List Nat},l=[]→Gk f p l=[p]
  | 0,_,_,_=>rfl
  | f+1,p,l,h=>by rw [Gk,if_pos h]
def ordG (f:Nat) (p l:List Nat) (i:Nat):List (List Nat):=Gk f (p++[l.getD i 0]) (l.eraseIdx i)
theorem Tl {f:Nat} {p l:List Nat} (h:¬ l=[]):Gk (f+1) p l=(List.range l.length).flatMap (ordG f p l):=by rw [Gk,if_neg h];rfl
theorem intsN {G:Ghost} {v:Value} {l:List Nat} (h:Bt G v (l.map fun x:Nat=>(x:Int))):Cc G v l:=by
  unfold Cc;unfold Bt at h;rw [List.length_map,List.map_map] at h;exact h
theorem bH {l:List Nat} {i:Nat}:([((l.map fun x:Nat=>(x:Int)).drop 0).take (i-0),((l.map fun x:Nat=>(x:Int)).drop (i+1)).take (l.length-(i+1))]:List (List Int)).flatten=(l.eraseIdx i).map fun x:Nat=>(x:Int):=by
  rw [List.eraseIdx_eq_take_drop_succ,List.map_append,List.map_take,List.map_drop,List.drop_zero,Nat.sub_zero]
  simp
  exact List.take_of_length_le sM
def OrdV (f:Nat):Prop:=∀ (G:Ghost) (br bp:Nat) (Ap Al:Option Addr) (cp cl:Nat) (p l:List Nat),l.length=f→p.length≤100→Bs G bp [.slice Ap p.length cp]→Bs G br [.slice Al l.length cl]→Cc G (.slice Ap p.length cp) p→Cc G (.slice Al l.length cl) l→l.length≤100-p.length→Vis prog 54 [Vp br,Vp bp] RxN (Gk f p l) G
theorem ord1_ok {G:Ghost} {br bp fu:Nat} {Ap Al:Option Addr} {cp cl:Nat} {p l:List Nat} (hfl:l.length=fu) (hpl:p.length≤100) (hll:l.length≤100-p.length) (hI:∀ f',fu=f'+1→OrdV f') (hbp:Bs G bp [.slice Ap p.length cp]) (hbr:Bs G br [.slice Al l.length cl]) (hpN:Cc G (.slice Ap p.length cp) p) (hlN:Cc G (.slice Al l.length cl) l)
  {lp:Nat} {H0:List Res} {J:Nat→Ghost→List Res→Prop} {K:Ghost→List Res→Prop} (hJm:∀ n G1 G2 H,Ghost.le G1 G2→J n G1 H→J n G2 H) (hKm:∀ G1 G2 H,Ghost.le G1 G2→K G1 H→K G2 H)
  (hY:∀ n x v G' H',(Gk fu p l)[n]?=some x→RxN G' v x→G.le G'→J n G' H'→Dp prog lp v G' H' fun b G'' H''=>(b=Vt∧J (n+1) G'' H''∧Hq H' H'')∨(b=Vf∧K G'' H'')) (hJ0:J 0 G H0) :
  Ai prog 54 [.func (.yield lp) #[] #[],Vp br,Vp bp] G H0 fun _ G' H'=>J (Gk fu p l).length G' H'∨K G' H':=by
 refine Ai.of_TM [(0,_),(1,_),(2,_)] func54 rfl ntmps54 sM rfl fun w0 hs=>?_
 have hbp0:=hbp
 have hbr0:=hbr
 have hpN0:=hpN
 have hlN0:=hlN
 have hfe:=Hq.refl H0
 refine Wt 2 [] hs rfl<|O_s (Sb hs rfl fun b3 _ hs=>Wp 1 [0] hs rfl ?_)
 obtain ⟨_,hGb3,hb3,hs⟩:=hs.fixBlk (eJ hs hfe)
 replace hb3:Bs _ b3 _:=hb3
 replace hbp:=hbp.mono hGb3
 replace hbr:=hbr.mono hGb3
 replace hpN:=hpN.mono hGb3
 replace hlN:=hlN.mono hGb3
 replace hJ0:=hJm _ _ _ _ hs.le hJ0
 refine Wu 3 [] hs rfl<|Zy hs (Yg rfl (hbr 0 (.slice Al l.length cl) rfl)<|Wp 1 [] hs rfl<|Zy hs (Yc rfl (fun h10=>?_) fun h10=>?_))
 ·
  have hnil:l=[]:=List.eq_nil_of_length_eq_zero oM
  refine Wp 4 [0] hs rfl<|Zy hs (Yg rfl (hb3 0 (.func (.yield lp) #[] #[]) rfl)<|Zy hs (Yg rfl (hbp 0 (.slice Ap p.length cp) rfl)<|O_s (Ls (H1:=H0) (H:=[]) Z39 rfl rfl (hY 0 _ _ _ _ (by rw [gA hnil];rfl) ⟨_,rfl,hpN⟩ hs.le hJ0) fun v G'' H'' w' hR hG13 hs=>?_)))
  rcases hR with ⟨rfl,hJ,hC⟩ | ⟨rfl,hK⟩
  ·
   rw [List.append_nil] at hs
   refine Wp 1 [0] hs rfl<|Ah<|Hg (Ds:=[]) hs (vs:=[]) results54 rfl (fun _ hs=>⟨trivial,?_⟩)
   exact ⟨_,_,hs,.inl (by rw [gA hnil];exact hJ)⟩
  rw [List.append_nil] at hs
  refine Wp 1 [0] hs rfl<|Ah<|Hg (Ds:=[]) hs (vs:=[]) results54 rfl (fun _ hs=>⟨trivial,?_⟩)
  exact ⟨_,_,hs,.inr hK⟩
 have hne:¬ l=[]:=fun h=>h10 (by rw [h];rfl)
 obtain ⟨f',rfl⟩:∃ f',fu=f'+1:=⟨fu-1,by omega⟩
 replace hI:=hI f' rfl
 refine Wp 5 [0] hs rfl<|Zy hs (Yg rfl (hbr 0 (.slice Al l.length cl) rfl)<|Wp 3 [0] hs rfl ?_)
 have hs:=hs.marks0
 refine Zl [1,2,3,14,15,16] (fun m E w=>∃ (i:Nat) (Ds:List Nat) (G2:Ghost) (H'':List Res),i≤l.length∧J ((List.range i).flatMap (ordG f' p l)).length G2 H''∧Hq H0 H''∧Bs G2 b3 [.func (.yield lp) #[] #[]]∧m=l.length-i∧E=⟨Yr Ds,[(1,Vp br),(2,Vp bp),(3,Vp b3),(14,.slice Al l.length cl),(15,Vi ((l.length:Nat):Int)),(16,Vi (i:Int))]⟩∧St ⟨w0,G,Bl H0⟩ G2 (H''++Cb Ds) w) rfl (⟨0,[],_,_,by omega,hJ0,hfe,hb3,rfl,rfl,hs⟩) fun m E w hI=>?_
 obtain ⟨i,Ds,G2,H'',hi,hJ,hfe,hb3,rfl,rfl,hs⟩:=hI
 have hbp:=hbp0.mono hs.le
 have hbr:=hbr0.mono hs.le
 have hpN:=hpN0.mono hs.le
 have hlN:=hlN0.mono hs.le
 have hs00:=hs
 have hlg:=Tm.refl G2
 refine Wt 2 [] hs rfl<|Zy hs (Yc rfl (fun h17=>?_) fun h17=>?_)
 ·
  refine Wp 9 [0] hs rfl<|Zy hs (Eu hlN i underlying33 sizeOf3 rfl rfl rfl oM fun p19 hp19=>?_)
  rw [show l[i]'oM=l.getD i 0 from by rw [List.getD_eq_getElem?_getD,List.getElem?_eq_getElem oM];rfl] at hp19
  refine Zy hs (Yg rfl (hp19)<|Wp 4 [0] hs rfl<|Bb [0,1,2,3,4,5,6,7,8,9] hs kR ?_)
  replace hs:=hs.drew
  refine Xt 0 hs rfl (Yg rfl (hbr 0 (.slice Al l.length cl) rfl)<|Xr [1] [] hs rfl<|Xt 2 hs rfl (Kd (Qf hlN) 0 i underlying33 sizeOf3 rfl rfl ⟨_,_,rfl,rfl⟩ oM Lk fun s23 hs23=>?_))
  obtain ⟨A23,c23,rfl,_⟩:=id hs23
  refine Xt 3 hs rfl (Yg rfl (hbr 0 (.slice Al l.length cl) rfl)<|Xr [4] [] hs rfl<|Xt 5 hs rfl (Ya (s:=((i+1):Int)) rfl<|Xt 6 hs rfl (Kd (Qf hlN) (i+1) l.length underlying33 sizeOf3 rfl ⟨_,_,rfl,rfl⟩ (by simp [bnd]) oM sM fun s27 hs27=>?_)))
  obtain ⟨A27,c27,rfl,_⟩:=id hs27
  have hle:=hs.le
  refine Xo 7 rfl (Bw hs underlying41 sizeOf33 zeroValue33 rfl rfl dC dC rfl (cs:=[_,_]) rfl rfl fun v1 _ hs _=>?_)
  have hsN:=hs.fixRow (eJ hs hfe.app)
  clear hs
  obtain ⟨_,hG28,hl28,hs⟩:=hsN
  replace hbp:=hbp.mono hG28
  replace hpN:=hpN.mono hG28
  replace hb3:=hb3.mono hG28
  replace hlg:=hlg.mono hG28
  replace hs23:=hs23.mono hG28
  replace hs27:=hs27.mono hG28
  obtain ⟨A28,c28,rfl,_⟩:=id hl28
  refine Am hs hle hG28 (Df _) ?_
  have hrt:Rts _ _ [_,_]:=rts_two hl28 hs23 hs27
  have hle:=hs.le
  refine Xo 8 rfl (Ew (H1:=[]) (H:=(H''++Cb Ds)) hs rfl func55 rfl kR (coni_ok (l:=[_,_]) hrt sM Lk) fun v2 G' H' _ hR hG29 hs=>?_)
  obtain ⟨rfl,hcon⟩:=hR
  replace hs:St _ _ ((H''++Cb Ds)) _:=hs
  replace hbp:=hbp.mono hG29
  replace hpN:=hpN.mono hG29
  replace hb3:=hb3.mono hG29
  replace hlg:=hlg.mono hG29
  rw [bH] at hcon
  have hbelow:=intsN hcon
  clear hcon
  obtain ⟨A29,c29,rfl,_⟩:=id hbelow
  refine Am hs hle hG29 (Df _)<|Xr [9] [] hs rfl<|Xe (Zk [1,2,3,5,6,14,15,16] rfl<|Wu 2 [] hs rfl<|Zy hs (Yg rfl (hbp 0 (.slice Ap p.length cp) rfl)<|O_s (Ew (H1:=[]) (H:=(H''++Cb Ds)) hs rfl func32 rfl kR (pU hpN (Oj _) oM) fun v3 G' H' _ hR hG31 hs=>?_)))
  obtain ⟨rfl,_⟩:=hR
  replace hs:St _ _ (_::(H''++Cb Ds)) _:=hs
  replace hb3:=hb3.mono hG31
  replace hlg:=hlg.mono hG31
  replace hbelow:=hbelow.mono hG31
  refine Wp 1 [] hs rfl<|O_s (Bw hs underlying33 sizeOf3 zeroValue3 rfl rfl dC dC rfl (cs:=[_]) rfl rfl fun v4 _ hs _=>?_)
  obtain ⟨_,hG33,hl33,hs⟩:=hs.fixRow (eJ hs hfe.app.tl)
  replace hb3:=hb3.mono hG33
  replace hlg:=hlg.mono hG33
  replace hbelow:=hbelow.mono hG33
  refine O_s (Bf hs underlying33 Ko rfl dC rfl rfl (hl33) (Fh rfl) oM Lk fun v5 _ hs =>Wp 1 [] hs rfl ?_)
  have hsN:=hs.fixRow (eJ hs hfe.app)
  clear hs
  obtain ⟨_,hG_hpr,hpr,hs⟩:=hsN
  replace hb3:=hb3.mono hG_hpr
  replace hlg:=hlg.mono hG_hpr
  replace hbelow:=hbelow.mono hG_hpr
  have hpN2:Cc _ _ (p++[l.getD i 0]):=Cc.ofSl hpr sM sM
  clear hpr
  obtain ⟨A34,c34,rfl,_⟩:=id hpN2
  refine O_s (Ew (H1:=[]) (H:=(H''++Cb Ds)) hs rfl func29 rfl kR (qD) fun v6 G' H' _ hR hG36 hs=>?_)
  obtain ⟨rfl,br',bp',rfl,hQp,hQr⟩:=hR
  replace hs:St _ _ ((H''++Cb Ds)) _:=hs
  replace hb3:=hb3.mono hG36
  replace hlg:=hlg.mono hG36
  replace hbelow:=hbelow.mono hG36
  replace hpN2:=hpN2.mono hG36
  refine Wp 1 [0] hs rfl ?_
  have hV:=hI _ _ _ _ _ _ _ (p++[l.getD i 0]) (l.eraseIdx i) Z30 Lk hQp hQr hpN2 hbelow (by simp [List.length_eraseIdx_of_lt (show i<l.length by omega)];omega)
  refine Wu 1 [] hs rfl<|oG (fun n G' H'=>J (((List.range i).flatMap (ordG f' p l)).length+n) G' H') (fun cd G' H'=>cd=.ret∧K G' H') hV hs rfl func54 rfl kR (hJm _ _ _ _ hlg hJ) (fun _ _ _ _ h h2=>hJm _ _ _ _ h h2) (fun _ _ _ _ h h2=>⟨h2.1,hKm _ _ _ h h2.2⟩) ?round ?done ?early
  case round =>
   intro lq D rec n x v G' H2 hp ha hbd hst hpe hAg hx hv hle hJ
   obtain ⟨state,pending,fn',tmps,params,assign,body,defers⟩:=rec
   dsimp only at hp ha hbd hst hpe hAg
   subst hst hpe
   obtain ⟨u,rfl,huN⟩:=hv
   subst hp ha hbd
   have hxs:=Wr (ordG f' p l) (show i<l.length by omega) hx
   replace hb3:=hb3.mono hle
   replace hlg:=hlg.mono hle
   refine Dp.of_TX hAg rfl rfl sM rfl fun w1 hs =>Wt 2 [] hs rfl<|Cm ⟨hs,fun w2 hs=>?_⟩
   have hs:=hs.swap (A:=[.obj lq _,.obj D _])
   refine Wt 3 [] hs rfl<|Zy hs (Yg rfl (hb3 0 (.func (.yield lp) #[] #[]) rfl)<|Wp 1 [] hs rfl<|O_s (Ls (H1:=H2) (H:=[.obj lq _,.obj D _]) hs rfl rfl (hY _ _ _ _ _ (by rw [Tl hne];exact hxs) ⟨_,rfl,huN⟩ (Ghost.le.trans hs00.le hlg) hJ) fun v G'' H'' w' hR hG40 hs=>?_))
   rcases hR with ⟨rfl,hJ,hC⟩ | ⟨rfl,hK⟩
   ·
    have hs:=hs.swap
    refine Wp 4 [0] hs rfl ?_
    refine ⟨_,_,hs,.inl ⟨rfl,_,rfl,hJ,hC⟩⟩
   have hs:=hs.swap
   refine Wp 3 [0] hs rfl<|Ah ?_
   exact ⟨_,_,hs,.inr ⟨rfl,_,.ret,rfl,rfl,hK⟩⟩
  case done =>
   intro lq D o' G' H2 w' hJ hC hle hs
   replace hs:=hs.mark
   replace hfe:=Hq.trans hfe hC
   replace hb3:=hb3.mono hle
   refine Zr<|Zy hs (Ya (s:=((i+1):Int)) rfl<|Wp 1 [] hs rfl<|Zx [1,2,3,14,15,16] rfl ⟨i+1,_,_,_,by omega,by rw [Pl.flat_len];exact hJ,hfe,hb3,rfl,rfl,hs⟩)
  case early =>
   rintro lq D o' cd G' H2 w' ⟨rfl,hK⟩ hle hs
   replace hs:=hs.mark.swap
   refine Ah<|Hg (Ds:=D::Ds) hs (vs:=[]) results54 rfl (fun _ hs=>⟨trivial,?_⟩)
   exact ⟨_,_,hs,.inr hK⟩
 refine Wp 4 [0] hs rfl ?_
 try dsimp only [Ex.At,Ex.sqs,Ex.sq,Ex.lp,Ex.bk]
 try rw [show Nat.beq _ _=true from Nat.beq_refl _,cond_true]
 obtain rfl:i=l.length:=by omega
 replace hs:=hs.swap
 refine qY hs (vs:=[]) results54 rfl (fun _ hs=>⟨trivial,?_⟩)
 exact ⟨_,_,hs,.inl (by rw [Tl hne];exact hJ)⟩
theorem bI:∀ (n:Nat),OrdV n
  | n,G,br,bp,Ap,Al,cp,cl,p,l,hfl,hpl,hbp,hbr,hpN,hlN,hll=>fun lp H0 G0 J K hle hJm hKm hY hJ0 =>
    ord1_ok hfl hpl hll (fun f' h=>bI f') (hbp.mono hle) (hbr.mono hle) (hpN.mono hle) (hlN.mono hle) hJm hKm hY hJ0
termination_by n=>n
decreasing_by omega
theorem app0 {c:Ctx} {G:Ghost} {H:List Res} {w:World} (h:St c G H w):St c G (H++[]) w:=by rw [List.append_nil];exact h
def nE (G:Ghost) (c:List Value) (r:List Bool):Prop:=∃ v,c=[v]∧Hr G v r
theorem nE.mono {G G':Ghost} (h:G.le G') {c:List Value} {r:List Bool} (hr:nE G c r):nE G' c r:=by
  obtain ⟨v,e,hv⟩:=hr
  exact ⟨v,e,hv.mono h⟩
def gK (G:Ghost) (v:Value) (s:List (List Bool)):Prop:=Be 1 nE G v s
theorem gK.mono {G G':Ghost} (h:G.le G') {v:Value} {s:List (List Bool)} (hs:gK G v s):gK G' v s:=Be.mono (fun _ _ hp=>hp.mono h) h hs
structure SOk (f:Cg) (s:List (List Bool)):Prop where
  n:s.length=f.progs.length
  r:∀ r∈s,r.length=f.progs.length
theorem zG {f:Cg} {s:List (List Bool)} (h:SOk f s) {a b:Int} (ha:0≤a∧a<f.progs.length) (hb:0≤b∧b<f.progs.length):((s[a.toNat]'(by rw [h.n];omega)).map Bc)[b.toNat]?=some (.bool (My s a b)):=by
  have h1:a.toNat<s.length:=by rw [h.n];omega
  have h2:b.toNat<s[a.toNat].length:=by rw [h.r _ (List.getElem_mem h1)];omega
  have e:My s a b=s[a.toNat][b.toNat]:=by
    unfold My
    rw [List.getD_eq_getElem?_getD (l:=s),List.getElem?_eq_getElem h1,Option.getD_some,List.getD_eq_getElem?_getD,List.getElem?_eq_getElem h2];rfl
  rw [e];exact Sr h2
theorem Uv {f:Cg}:∀ {u u':List Int},Ja f u→Ja f u'→u=u':=by
  have key:∀ (u u':List Int),u.Pairwise (·<·)→u'.Pairwise (·<·)→(∀ x,x∈u↔x∈u')→u=u':=by
    intro u
    induction u with
    | nil=>intro u' _ _ h;cases u' with
      | nil=>rfl
      | cons a u'=>exact absurd ((h a).2 List.mem_cons_self) sM
    | cons a u ih =>
      intro u' h1 h2 h
      cases u' with
      | nil=>exact absurd ((h a).1 List.mem_cons_self) sM
      | cons b u' =>
        obtain ⟨ha,k1⟩:=List.pairwise_cons.1 h1
        obtain ⟨hb,k2⟩:=List.pairwise_cons.1 h2
        have hab:a=b:=by
          rcases List.mem_cons.1 ((h a).1 List.mem_cons_self) with e | e
          · exact e
          · rcases List.mem_cons.1 ((h b).2 List.mem_cons_self) with e' | e'
            · exact e'.symm
            · have:=hb _ e;have:=ha _ e';omega
        subst hab
        congr 1
        refine ih u' k1 k2 fun x=>⟨fun hx=>?_,fun hx=>?_⟩
        · rcases List.mem_cons.1 ((h x).1 (List.mem_cons_of_mem _ hx)) with e | e
          · have:=ha _ hx;omega
          · exact e
        · rcases List.mem_cons.1 ((h x).2 (List.mem_cons_of_mem _ hx)) with e | e
          · have:=hb _ hx;omega
          · exact e
  intro u u' h h'
  exact key u u' h.1 h'.1 fun x=>(h.2 x).trans (h'.2 x).symm
theorem zH {f:Cg} {nv:List Int} (hU:kE f nv) {o:List Nat} {x:List Int} (h:x∈fY f nv o):x.length=f.nodes.length∧∀ y∈x,0≤y∧y<f.progs.length:=by
  obtain ⟨hc0,hc1,hcn,hce,hcr⟩:=Qw hU.c
  refine ⟨(fV _ _ _ _ h).trans Iq,?_⟩
  have hv:∀ k,(hk:k<f.nodes.length)→∀ y∈f.nodes[k].vers,0≤y∧y<(f.progs.length:Int):=fun k hk y hy =>
    (Ot (List.all_eq_true.1 hcn _ (List.getElem_mem hk))).2.2.1 y hy
  refine zB (fW f nv) (p:=fun y=>0≤y∧y<f.progs.length) (fun i=>?_) o (Ig f) x (fun y hy=>?_) h
  · rcases Nat.lt_or_ge i f.nodes.length with hi | hi
    · rw [zD hi (hU.v i hi)];exact hv i hi _ (List.getElem_mem _)
    · have:(fW f nv).getD i 0=0:=by
        unfold fW;rw [List.getD_eq_getElem?_getD,List.getElem?_eq_none Lk];rfl
      show 0≤(fW f nv).getD i 0∧(fW f nv).getD i 0<_
      rw [this];omega
  · obtain ⟨k,hk,rfl⟩:=List.getElem_of_mem hy
    rw [Iq] at hk
    rw [kF hk (Ot (List.all_eq_true.1 hcn _ (List.getElem_mem hk))).2.2.2.1]
    exact hv k hk _ (List.getElem_mem _)
theorem zI {f:Cg} {nv:List Int} (hU:kE f nv) {u:List Int} (hu:Ja f u) {e:Int} (he:e∈u):∃ i a b:Nat,∃ h:i<f.edges.length,e=(i:Int)∧f.edges[i]=((a:Int),(b:Int))∧a<f.nodes.length∧b<f.nodes.length∧nD f e=(a,b):=by
  obtain ⟨hc0,hc1,hcn,hce,hcr⟩:=Qw hU.c
  obtain ⟨i,hi,rfl,_⟩:=used_at hu hcr he
  obtain ⟨⟨h1,h2⟩,⟨h3,h4⟩,_⟩:=yP hce (List.getElem_mem hi)
  refine ⟨i,f.edges[i].1.toNat,f.edges[i].2.toNat,hi,rfl,?_,by omega,by omega,?_⟩
  · exact Prod.ext Lk Lk
  · unfold nD;rw [Int.toNat_natCast,List.getElem?_eq_getElem hi]
theorem qE {f:Cg} {nv:List Int} {s:List (List Bool)} {u:List Int} {o:List Nat} {k:Nat} (h:k<u.length):Kr f nv s (u.take (k+1)) o=Kr f nv s (u.take k) o++if Vq (fW f nv) (nD f) (My s) (Ig f) o u[k]=true then [] else [u[k]]:=by
  unfold Kr clF
  rw [Ed h,List.filter_append]
  congr 1
  by_cases h2:Vq (fW f nv) (nD f) (My s) (Ig f) o u[k]=true
  · rw [if_pos h2];simp [h2]
  · rw [if_neg h2];simp [h2]
theorem Bs.pre {G:Ghost} {b:Nat} {cs:List Value} (n:Nat) (h:Bs G b cs):Bs G b (cs.take n):=fun i v hv=>h i v (by
  rw [List.getElem?_take] at hv;split at hv
  · exact hv
  · cases hv)
theorem gB {G:Ghost} {Ap An Ae Ar:Option Addr} {cp cn ce cr:Nat} {f:Cg} {Au:Option Addr} {cu:Nat} {nv:List Int} {As Ao:Option Addr} {cs co:Nat} {s:List (List Bool)} {o:List Nat} {u:List Int} (hf:Ho G Ap An Ae Ar cp cn ce cr f) (hu:Bt G (.slice Au nv.length cu) nv) (hsf:gK G (.slice As s.length cs) s) (hoN:Cc G (.slice Ao o.length co) o) (hk:kE f nv) (hT:Tab G) (hU:Ja f u) (ho:∀ i∈o,i<f.nodes.length) (hol:o.length≤1000) (hso:SOk f s) :
  Ai prog 31 [.agg #[.slice Ap f.progs.length cp,.slice An f.nodes.length cn,.slice Ae f.edges.length ce,.slice Ar f.routes.length cr,.slice Au nv.length cu],.slice As s.length cs,.slice Ao o.length co] G [] fun r G' H'=>H'=[]∧Bt G' r (Kr f nv s u o):=by
 refine Ai.of_TM [(0,_),(1,_),(2,_)] func31 rfl ntmps31 sM rfl fun w0 hs=>?_
 have hf0:=hf
 have hu0:=hu
 have hsf0:=hsf
 have hoN0:=hoN
 have hT0:=hT
 refine Wt 2 [] hs rfl<|O_s (Sb hs rfl fun b3 _ hs=>O_s (Sb hs rfl fun b4 _ hs=>Wp 6 [0,0,1] hs rfl<|O_s (Sc (fH hf hk.g.z hk.g.o hT hk.c hk.r) hs rfl fun v1 G' H' _ hR hG16 hs=>?_)))
 obtain ⟨rfl,vu,u',rfl,hU',huI,hul⟩:=hR
 replace hs:=hs.n rfl
 replace hf:=hf.mono hG16
 replace hu:=hu.mono hG16
 replace hsf:=hsf.mono hG16
 replace hoN:=hoN.mono hG16
 replace hT:=hT.mono hG16
 obtain rfl:=Uv hU hU'
 obtain ⟨Ae2,ce2,rfl,_⟩:=id huI
 refine Wp 6 [0] hs rfl ?_
 have hs:=hs.f1
 obtain ⟨_,hGbhQu,hQu,hs⟩:=hs.fixBlk (fun k _=>Hv k)
 replace hf:=hf.mono hGbhQu
 replace hu:=hu.mono hGbhQu
 replace hsf:=hsf.mono hGbhQu
 replace hoN:=hoN.mono hGbhQu
 replace hT:=hT.mono hGbhQu
 replace huI:=huI.mono hGbhQu
 replace hQu:Bs _ b3 _:=hQu
 obtain ⟨_,hGbhQs,hQs,hs⟩:=hs.fixBlk (fun k _=>Hv k)
 replace hf:=hf.mono hGbhQs
 replace hu:=hu.mono hGbhQs
 replace hsf:=hsf.mono hGbhQs
 replace hoN:=hoN.mono hGbhQs
 replace hT:=hT.mono hGbhQs
 replace huI:=huI.mono hGbhQs
 replace hQu:=hQu.mono hGbhQs
 replace hQs:Bs _ b4 _:=hQs
 refine Wu 2 [] hs rfl<|O_s (Sa hs zeroValue33 rfl fun b9 _ hs=>Wp 8 [0,0] hs rfl ?_)
 have hs:=hs.nilRow 3 1
 have hs:=hs.f1.f1
 replace hs:St _ _ (_::_::Cb []) _:=hs
 obtain ⟨Gp0,hGp⟩:=hs.name
 subst hGp
 have huI_0:=huI
 have hQu_0:=hQu
 have hQs_0:=hQs
 refine Zl [2,3,4,9,19,20,21] (fun m E w=>∃ (k:Nat) (Ds:List Nat) (v9:Value) (G2:Ghost),k≤u.length∧Tm Gp0 G2∧m=u.length-k∧E=⟨Yr Ds,[(2,.slice Ao o.length co),(3,Vp b3),(4,Vp b4),(9,Vp b9),(19,.slice Ae2 u.length ce2),(20,Vi ((u.length:Nat):Int)),(21,Vi (k:Int))]⟩∧St ⟨w0,G,Bl []⟩ G2 (.row 3 1 v9 (Kr f nv s (u.take k) o).length ((Kr f nv s (u.take k) o).map (.int .i64))::.blk b9 33 [v9]::Cb Ds) w) rfl (⟨0,[],_,_,by omega,Tm.refl _,rfl,rfl,hs⟩) fun m E w hI=>?_
 obtain ⟨k,Ds,v9,G2,hkl,hlg0,rfl,rfl,hs⟩:=hI
 have huI:=huI_0.mono hlg0
 have hQu:=hQu_0.mono hlg0
 have hQs:=hQs_0.mono hlg0
 have hf:=hf0.mono hs.le
 have hu:=hu0.mono hs.le
 have hsf:=hsf0.mono hs.le
 have hoN:=hoN0.mono hs.le
 have hT:=hT0.mono hs.le
 refine Wt 2 [] hs rfl<|Zy hs (Yc rfl (fun h22=>?_) fun h22=>?_)
 ·
  refine Wp 8 [0] hs rfl<|Zy hs (Dd huI k underlying33 sizeOf3 rfl rfl rfl oM fun p23 hp23 =>Zy hs (Yg rfl (hp23)<|O_s (Sa hs zeroValue3 rfl fun b11 _ hs=>O_n (Sd hs rfl rfl fun _ hs=>Wp 3 [0] hs rfl<|Zy hs (Cy (vs:=[.slice Ap f.progs.length cp,.slice An f.nodes.length cn,.slice Ae f.edges.length ce,.slice Ar f.routes.length cr,.slice Au nv.length cu]) isAgg45 sizeOf45 rfl hQu.whole rfl<|Wp 1 [] hs rfl<|O_s (Ew (H1:=[]) (H:=_::_::_::Cb Ds) hs rfl func41 rfl kR (qB) fun v2 G' H' _ hR hG27 hs=>?_))))))
  obtain ⟨rfl,bu,bo,rfl,hQ1,hQ2⟩:=hR
  replace hs:St _ _ (_::_::_::Cb Ds) _:=hs
  replace hf:=hf.mono hG27
  replace hu:=hu.mono hG27
  replace hsf:=hsf.mono hG27
  replace hoN:=hoN.mono hG27
  replace hQu:=hQu.mono hG27
  replace hQs:=hQs.mono hG27
  replace hlg0:=hlg0.mono hG27
  refine Wp 1 [0] hs rfl ?_
  have hs:=hs.front 2 rfl (H':=(_::_::_::Cb Ds)) rfl
  have hs:=hs.front 2 rfl (H':=(_::_::_::Cb Ds)) rfl
  have hV:=bG (o:=o) hf hu hk.g.z hk.c hk.n hk.v hQ1 hQ2 hoN hol ho
  refine Wu 1 [] hs rfl<|oG (fun n G' H'=>H'=[.row 3 1 v9 (Kr f nv s (u.take k) o).length ((Kr f nv s (u.take k) o).map (.int .i64)),.blk b9 33 [v9],.blk b11 3 [Vi (u[k]'oM)]]∧∀ (j:Nat) x,j<n→(fY f nv o)[j]?=some x→okE (nD f) (My s) x (u[k]'oM)=true) (fun cd G' H'=>cd=.exit 2∧(∃ x∈fY f nv o,okE (nD f) (My s) x (u[k]'oM)=false)∧∃ v',H'=[.row 3 1 v' (Kr f nv s (u.take k) o++[(u[k]'oM)]).length ((Kr f nv s (u.take k) o++[(u[k]'oM)]).map (.int .i64)),.blk b9 33 [v'],.blk b11 3 [Vi (u[k]'oM)]]) hV (show St _ _ ([_,_,_]++Cb Ds) _ from hs) rfl func64 rfl kR ⟨rfl,fun j x h=>absurd h (Nat.not_lt_zero j)⟩ (fun _ _ _ _ _ h2=>h2) (fun _ _ _ _ _ h2=>h2) ?round ?done ?early
  case round =>
   rintro lq D rec n x v G' H2 hp ha hbd hst hpe hAg hx hv hle ⟨rfl,hJ⟩
   obtain ⟨state,pending,fn',tmps,params,assign,body,defers⟩:=rec
   dsimp only at hp ha hbd hst hpe hAg
   subst hst hpe
   obtain ⟨ux,rfl,hxI⟩:=hv
   subst hp ha hbd
   replace hf:=hf.mono hle
   replace hsf:=hsf.mono hle
   replace hQu:=hQu.mono hle
   replace hQs:=hQs.mono hle
   refine Dp.of_TX hAg rfl rfl sM rfl fun w1 hs =>Wt 2 [] hs rfl<|Cm ⟨hs,fun w2 hs=>?_⟩
   have hcz:(Kr f nv s (u.take k) o).length≤12:=by have h1:=(zC (nv:=fW f nv) (ed:=nD f) (S:=My s) (U:=u.take k) (r0:=Ig f) o).length_le;rw [List.length_take] at h1;unfold Kr;omega
   obtain ⟨i,a,b,hiE,hie,hab,haN,hbN,hed⟩:=zI hk hU (List.getElem_mem (show k<u.length by omega))
   have hxm:=List.mem_of_getElem? hx
   obtain ⟨hxl,hxr⟩:=zH hk hxm
   obtain ⟨y1,hy1⟩:∃ z,z=x[a]'oM:=⟨_,rfl⟩
   obtain ⟨y2,hy2⟩:∃ z,z=x[b]'oM:=⟨_,rfl⟩
   have hr1:=hxr y1 (by rw [hy1];exact List.getElem_mem _)
   have hr2:=hxr y2 (by rw [hy2];exact List.getElem_mem _)
   have hcell:=zG hso hr1 hr2
   have hoke:okE (nD f) (My s) x (u[k]'oM)=My s y1 y2:=by unfold okE;rw [hed];dsimp only;rw [La oM,La oM,← hy1,← hy2]
   refine Wt 2 [] hs rfl<|Bb [0,1,2,3,4,5,6,7,8,9,10,11,12,13,14,15,16,17,18,19,20,21,22,23,24,25] hs kR ?_
   replace hs:=hs.drew
   refine Xt 0 hs rfl (Yg rfl (hQs 0 (.slice As s.length cs) rfl)<|Xr [1,2,3] [0,2] hs rfl<|Xt 4 hs rfl (Yg rfl (hQu 2 (.slice Ae f.edges.length ce) rfl)<|Xr [5] [4] hs rfl<|Xt 6 hs rfl (Bp hf.e i underlying40 sizeOf70 rfl rfl hie hiE fun p35 c35 hp35 hc35 hR35=>?_)))
   replace hR35:c35=[Vi f.edges[i].1,Vi f.edges[i].2]:=hR35
   subst hR35
   refine Xt 7 hs rfl (Eo 0 underlying70 sizeOf3 rfl rfl rfl dC<|Xt 8 hs rfl (Yg rfl (hp35 0 (Vi (a:Int)) (by rw [hab];rfl))<|Xt 9 hs rfl (Dd hxI a underlying33 sizeOf3 rfl rfl rfl oM fun p38 hp38=>?_)))
   rw [← hy1] at hp38
   refine Xt 10 hs rfl (Yg rfl (hp38)<|Xt 11 hs rfl (Bp hsf y1.toNat underlying47 sizeOf64 rfl rfl oM (by have:=hso.n;omega) fun p40 c40 hp40 hc40 hR40=>?_))
   obtain ⟨ur,rfl,hBr⟩:=hR40
   obtain ⟨Ar,cr,rfl,_⟩:=id hBr
   refine Xt 12 hs rfl (Yg rfl (hp40 0 _ rfl)<|Xr [13,14,15] [0,2] hs rfl<|Xt 16 hs rfl (Yg rfl (hQu 2 (.slice Ae f.edges.length ce) rfl)<|Xr [17] [4] hs rfl<|Xt 18 hs rfl (Bp hf.e i underlying40 sizeOf70 rfl rfl hie hiE fun p47 c47 hp47 hc47 hR47=>?_)))
   replace hR47:c47=[Vi f.edges[i].1,Vi f.edges[i].2]:=hR47
   subst hR47
   refine Xt 19 hs rfl (Eo 1 underlying70 sizeOf3 rfl rfl rfl dC<|Xt 20 hs rfl (Yg rfl (hp47 1 (Vi (b:Int)) (by rw [hab];rfl))<|Xt 21 hs rfl (Dd hxI b underlying33 sizeOf3 rfl rfl rfl oM fun p50 hp50=>?_)))
   rw [← hy2] at hp50
   refine Xt 22 hs rfl (Yg rfl (hp50)<|Xt 23 hs rfl (Hu y2.toNat underlying64 sizeOf4 hBr rfl rfl oM hcell fun p52 hp52 =>Xt 24 hs rfl (Yg rfl (hp52)<|Xr [25] [] hs rfl<|Xe (Zk [2,3,4,9,11,12,19,20,21,28,54] rfl<|Fx rfl (fun hif=>?_) (fun hif=>?_)))))
   ·
    refine Wu 4 [3,4] hs rfl<|O_s (Bw hs underlying33 sizeOf3 zeroValue3 rfl rfl dC dC rfl (cs:=[_]) rfl rfl fun v3 _ hs _=>?_)
    obtain ⟨_,hG57,hl57,hs⟩:=hs.fixRow (eJ hs (Hq.cm 0 rfl (fun _ h=>h) (Hq.cm 1 rfl (fun _ h=>h) (Hq.cm 2 rfl (fun _ h=>h) (Hq.cm 3 rfl (fun _ h=>h) (Hq.cm 4 rfl (fun _ h=>h) (Hq.nil _)))))))
    refine O_s (Bf hs.f2 underlying33 Ko rfl dC rfl rfl (hl57) (Fh rfl) oM Lk fun v4 _ hs =>O_n (Sd hs.f3 rfl (hs.f3.rowOne 1 rfl) fun _ hs=>Wp 2 [0] hs rfl ?_))
    have hs:=hs.f4.f1.f2.f4.f4
    exact ⟨_,_,hs,.inr ⟨rfl,_,_,rfl,rfl,⟨x,hxm,hoke.trans (by simpa using hif)⟩,_,by simp;rfl⟩⟩
   refine Wx ?_
   have hs:=hs.f4.f4.f4.f4.f4
   refine ⟨_,_,hs,.inl ⟨rfl,_,rfl,⟨rfl,fun j z hj hz=>?_⟩,Hq.refl _⟩⟩
   rcases Nat.lt_or_ge j n with h | h
   · exact hJ j z h hz
   obtain rfl:j=n:=by omega
   obtain rfl:x=z:=by rw [hx] at hz;injection hz
   exact hoke.trans (by simpa using hif)
  case done =>
   rintro lq D o' G' H2 w' ⟨rfl,hJ⟩ hC hle hs
   replace hs:=hs.mark
   replace hlg0:=hlg0.mono hle
   have hse:Vq (fW f nv) (nD f) (My s) (Ig f) o (u[k]'oM)=true:=List.all_eq_true.2 fun x hx=>by obtain ⟨j,hj,rfl⟩:=List.getElem_of_mem hx;exact hJ j _ hj (List.getElem?_eq_getElem hj)
   replace hs:St _ _ (_::_::_::Cb (D::Ds)) _:=hs
   refine Zr<|Zy hs (Ya (s:=((k+1:Nat):Int)) rfl<|Wo 1 [] hs rfl ?_)
   have hs:=hs.front 2 rfl (H':=(_::_::_::Cb (D::Ds))) rfl
   have hs:=hs.front 2 rfl (H':=(_::_::_::Cb (D::Ds))) rfl
   have hs:=hs.front 2 rfl (H':=(_::_::_::Cb (D::Ds))) rfl
   refine Zx [2,3,4,9,19,20,21] rfl ⟨k+1,D::Ds,v9,_,by omega,hlg0,rfl,rfl,Bz (hs.weak hs.le (Cj _) (.cons_cons _ (.cons_cons _ (.cons _ (.refl _))))) (by rw [qE oM,if_pos hse];try simp)⟩
  case early =>
   rintro lq D o' cd G' H2 w' ⟨rfl,⟨x,hxm,hxo⟩,v',rfl⟩ hle hs
   replace hs:=hs.mark
   replace hlg0:=hlg0.mono hle
   have hse:Vq (fW f nv) (nD f) (My s) (Ig f) o (u[k]'oM)=false:=by cases hq:Vq (fW f nv) (nD f) (My s) (Ig f) o (u[k]'oM) with | false=>rfl | true=>(have:=List.all_eq_true.1 hq x hxm;rw [hxo] at this;cases this)
   replace hs:St _ _ (_::_::_::Cb (D::Ds)) _:=hs
   refine tP ?_
   refine Zr<|Zy hs (Ya (s:=((k+1:Nat):Int)) rfl<|Wo 1 [] hs rfl ?_)
   have hs:=hs.front 2 rfl (H':=(_::_::_::Cb (D::Ds))) rfl
   have hs:=hs.front 2 rfl (H':=(_::_::_::Cb (D::Ds))) rfl
   have hs:=hs.front 2 rfl (H':=(_::_::_::Cb (D::Ds))) rfl
   refine Zx [2,3,4,9,19,20,21] rfl ⟨k+1,D::Ds,v',_,by omega,hlg0,rfl,rfl,Bz (hs.weak hs.le (Cj _) (.cons_cons _ (.cons_cons _ (.cons _ (.refl _))))) (by rw [qE oM,if_neg (by rw [hse];simp)];try simp)⟩
 refine Wp 4 [0] hs rfl<|Wu 5 [1,0] hs rfl<|Ah ?_
 obtain rfl:k=u.length:=by omega
 rw [List.take_length] at hs
 obtain ⟨_,hG_hfr,hfr,hs⟩:=hs.fixRow noM
 have hs:=hs.drop
 have hs:=app0 hs
 refine Hg hs (vs:=[_]) results31 rfl (fun _ hs=>⟨⟨rfl,trivial⟩,?_⟩)
 try dsimp only [tup]
 exact ⟨_,[],hs.done,rfl,hfr⟩
theorem Ws {G:Ghost} {Ap An Ae Ar:Option Addr} {cp cn ce cr:Nat} {f:Cg} {Au:Option Addr} {cu:Nat} {nv:List Int} (hf:Ho G Ap An Ae Ar cp cn ce cr f) (hu:Bt G (.slice Au nv.length cu) nv) (hk:kE f nv) (hT:Tab G) :
  Ai prog 39 [.agg #[.slice Ap f.progs.length cp,.slice An f.nodes.length cn,.slice Ae f.edges.length ce,.slice Ar f.routes.length cr,.slice Au nv.length cu]] G [] fun r _ H'=>H'=[]∧r=Vi 0:=by
 have hnz:=hk.g.z.n
 have hnn:=hk.n
 refine Ai.of_T [(0,_)] func39 rfl ntmps39 sM rfl fun w0 hs=>?_
 have hf0:=hf
 have hu0:=hu
 have hT0:=hT
 refine Wt 2 [] hs rfl<|O_s (Sb hs rfl fun b1 _ hs=>Wp 7 [0,0,0] hs rfl<|O_s (Sc (pS hf hk.g.z hk.g.o hT) hs rfl fun v1 G' H' _ hR hG8 hs=>?_))
 obtain ⟨rfl,rfl⟩:=hR
 replace hs:=hs.n rfl
 replace hf:=hf.mono hG8
 replace hu:=hu.mono hG8
 replace hT:=hT.mono hG8
 rw [hk.c]
 refine Wp 19 [0,0,4,0,0,1,0] hs rfl<|Zy hs (Cv rfl rfl rfl oM<|Wp 12 [0,0,1,0,4,1,22,23,24] hs rfl<|Zl [1,22,23,24] (fun m E w=>∃ (k:Nat) (G2:Ghost),k≤f.nodes.length∧m=f.nodes.length-k∧E=⟨[],[(1,Vp b1),(22,.slice An f.nodes.length cn),(23,Vi ((f.nodes.length:Nat):Int)),(24,Vi (k:Int))]⟩∧St ⟨w0,G,Bl []⟩ G2 [.blk b1 45 [.slice Ap f.progs.length cp,.slice An f.nodes.length cn,.slice Ae f.edges.length ce,.slice Ar f.routes.length cr,.slice Au nv.length cu]] w) rfl (⟨0,_,by omega,rfl,rfl,hs⟩) fun m E w hI=>?_)
 obtain ⟨k,G2,hkl,rfl,rfl,hs⟩:=hI
 have hf:=hf0.mono hs.le
 have hu:=hu0.mono hs.le
 have hT:=hT0.mono hs.le
 refine Wt 2 [] hs rfl<|Zy hs (Yc rfl (fun h25=>?_) fun h25=>?_)
 ·
  refine Wp 4 [0] hs rfl ?_
  have hvk:=hk.v k oM
  rw [La oM] at hvk
  refine Wu 5 [] hs rfl<|Zy hs (Bp hf.n (k) underlying39 sizeOf76 rfl rfl rfl oM fun p27 c27 hp27 hc27 hR27=>?_)
  obtain ⟨u27,rfl,hv27⟩:=hR27
  obtain ⟨Av27,cv27,rfl,_⟩:=id hv27
  refine Zy hs (Cy (vs:=[.slice Av27 f.nodes[k].vers.length cv27,Vi f.nodes[k].runs,Vi f.nodes[k].claims,.bool f.nodes[k].up]) isAgg76 sizeOf76 rfl hp27 rfl<|O_s (Sa hs zeroValue76 rfl fun b5 _ hs=>Wp 1 [] hs rfl<|O_n (Sg hs rfl (rfl) fun _ hs=>Wp 2 [0] hs rfl<|Bb [0,1,2,3,4,5,6,7,8,9,10,11,12,13,14,15,16] hs kR ?_)))
  replace hs:=hs.drew
  refine Xr [0,1,2] [4,1] hs rfl<|Xt 3 hs rfl (Dd hu k underlying33 sizeOf3 rfl rfl rfl oM fun p32 hp32 =>Xt 4 hs rfl (Yg rfl (hp32)<|Xt 5 hs rfl (Cv rfl rfl rfl oM<|Xr [6,7,8,9] [4,1] hs rfl<|Xt 10 hs rfl (Dd hu k underlying33 sizeOf3 rfl rfl rfl oM fun p39 hp39 =>Xt 11 hs rfl (Yg rfl (hp39)<|Xr [12,13,14] [0,0] hs rfl<|Xt 15 hs rfl (Cv rfl rfl rfl oM<|Xr [16] [] hs rfl<|Xe (Zk [1,22,23,24,45] rfl<|Wu 3 [] hs rfl<|Zy hs (Ya (s:=((k+1:Nat):Int)) rfl<|Wp 1 [] hs rfl ?_))))))))
  have hs:=hs.f1
  refine Zx [1,22,23,24] rfl ⟨k+1,_,by omega,rfl,rfl,hs.weak hs.le (Cj _) (Ea [_] _)⟩
 refine Wp 4 [0] hs rfl<|Wu 4 [0] hs rfl<|O_s (Sc (fZ hf hu hk.g.z hk.n) hs rfl fun v2 G' H' _ hR hG48 hs=>?_)
 obtain ⟨rfl,h48⟩:=hR
 obtain ⟨A48,c48,rfl,_⟩:=id h48
 replace hs:=hs.n rfl
 refine Wp 1 [] hs rfl<|Zy hs (Cv rfl rfl rfl (by have:=hk.u;omega)<|Wp 7 [0,0] hs rfl<|Ah<|Zz results39 rfl ?_)
 exact ⟨_,[],hs.done,rfl,rfl⟩
theorem zJ {G:Ghost} {Ap An Ae Ar:Option Addr} {cp cn ce cr:Nat} {f:Cg} {Au:Option Addr} {cu:Nat} {nv:List Int} (hf:Ho G Ap An Ae Ar cp cn ce cr f) (hu:Bt G (.slice Au nv.length cu) nv) (hfo:FOk f) (hT:Tab G) (hC:¬ Dm f=0) :
  Ai prog 39 [.agg #[.slice Ap f.progs.length cp,.slice An f.nodes.length cn,.slice Ae f.edges.length ce,.slice Ar f.routes.length cr,.slice Au nv.length cu]] G [] fun r _ H'=>H'=[]∧r=Vi (Dm f):=by
 refine Ai.of_T [(0,_)] func39 rfl ntmps39 sM rfl fun w0 hs=>?_
 have hf0:=hf
 have hu0:=hu
 have hT0:=hT
 refine Wt 2 [] hs rfl<|O_s (Sb hs rfl fun b1 _ hs=>Wp 7 [0,0,0] hs rfl<|O_s (Sc (pS hf hfo.z hfo.o hT) hs rfl fun v1 G' H' _ hR hG8 hs=>?_))
 obtain ⟨rfl,rfl⟩:=hR
 replace hs:=hs.n rfl
 refine Wp 5 [0] hs rfl<|Zy hs (Hl rfl rfl rfl (hC)<|Wp 7 [0,0] hs rfl<|Ah<|Zz results39 rfl ?_)
 exact ⟨_,[],hs.done,rfl,rfl⟩
theorem pva1_ok {G:Ghost} {v:Value} {r:List Bool} {b n:Nat} (hr:Hr G v r) (hQ:Bs G b [Vi (n:Int)]) (hn:r.length=n) :
  Ai prog 51 [v,Vp b] G [] fun r _ H'=>H'=[]∧r=Vf:=by
 obtain ⟨Ar,cr,rfl,_⟩:=id hr
 refine Ai.of_T [(0,_),(1,_)] func51 rfl ntmps51 sM rfl fun w0 hs=>?_
 have hr0:=hr
 have hQ0:=hQ
 refine Wt 8 [0] hs rfl<|Zy hs (Yg rfl (hQ 0 (Vi (n:Int)) rfl)<|Zy hs (Cv rfl rfl rfl oM<|Wp 2 [0] hs rfl<|Ah<|Zz results51 rfl ?_))
 exact ⟨_,[],hs.done,rfl,rfl⟩
theorem idxs_ok {G:Ghost} {As:Option Addr} {cs b n:Nat} {s:List (List Bool)} (hsf:gK G (.slice As s.length cs) s) (hQ:Bs G b [Vi (n:Int)]) (hsr:∀ r∈s,r.length=n) (hsl:s.length≤1000) :
  Ai prog 71 [.slice As s.length cs,.func (.func 51) #[] #[Vp b]] G [] fun r _ H'=>H'=[]∧r=Vi (-1):=by
 refine Ai.of_T [(0,_),(1,_)] func71 rfl ntmps71 sM rfl fun w0 hs=>?_
 have hsf0:=hsf
 have hQ0:=hQ
 refine Wt 11 [0,0] hs rfl<|Zl [0,1,7,8] (fun m E w=>∃ (k:Nat) (G2:Ghost),k≤s.length∧m=s.length-k∧E=⟨[],[(0,.slice As s.length cs),(1,.func (.func 51) #[] #[Vp b]),(7,Vi ((s.length:Nat):Int)),(8,Vi (k:Int))]⟩∧St ⟨w0,G,Bl []⟩ G2 [] w) rfl (⟨0,_,by omega,rfl,rfl,hs⟩) fun m E w hI=>?_
 obtain ⟨k,G2,hkl,rfl,rfl,hs⟩:=hI
 have hsf:=hsf0.mono hs.le
 have hQ:=hQ0.mono hs.le
 refine Wt 2 [] hs rfl<|Zy hs (Yc rfl (fun h9=>?_) fun h9=>?_)
 ·
  refine Wp 16 [0,0] hs rfl<|Zy hs (Bp hsf k underlying47 sizeOf64 rfl rfl rfl oM fun p14 c14 hp14 hc14 hR14=>?_)
  obtain ⟨ur,rfl,hBr⟩:=hR14
  obtain ⟨Ar,cr,rfl,_⟩:=id hBr
  refine Zy hs (Yg rfl (hp14 0 _ rfl)<|O_s (Ca (args:=[_]) (lb:=[_]) (H1:=[]) hs rfl rfl func51 rfl kR (pva1_ok hBr hQ (hsr _ (List.getElem_mem _))) fun v1 G' H' _ hR hG16 hs=>?_))
  obtain ⟨rfl,rfl⟩:=hR
  replace hs:=hs.n rfl
  refine Wp 4 [0] hs rfl<|Zy hs (Ya (s:=((k+1:Nat):Int)) rfl<|Wp 1 [] hs rfl<|Zx [0,1,7,8] rfl ⟨k+1,_,by omega,rfl,rfl,hs⟩)
 refine Wp 4 [0] hs rfl<|Wu 4 [0] hs rfl<|Ah<|Zz results71 rfl ?_
 exact ⟨_,[],hs.done,rfl,rfl⟩
theorem cfns_ok {G:Ghost} {As:Option Addr} {cs b n:Nat} {s:List (List Bool)} (hsf:gK G (.slice As s.length cs) s) (hQ:Bs G b [Vi (n:Int)]) (hsr:∀ r∈s,r.length=n) (hsl:s.length≤1000) :
  Ai prog 50 [.slice As s.length cs,.func (.func 51) #[] #[Vp b]] G [] fun r _ H'=>H'=[]∧r=Vf:=by
 refine Ai.of_T [(0,_),(1,_)] func50 rfl ntmps50 sM rfl fun w0 hs=>?_
 have hsf0:=hsf
 have hQ0:=hQ
 refine Wt 8 [0] hs rfl<|O_s (Sc (idxs_ok hsf hQ hsr hsl) hs rfl fun v1 G' H' _ hR hG7 hs=>?_)
 obtain ⟨rfl,rfl⟩:=hR
 replace hs:=hs.n rfl
 refine Wp 3 [0] hs rfl<|Ah<|Zz results50 rfl ?_
 exact ⟨_,[],hs.done,rfl,rfl⟩
theorem zK {G:Ghost} {Ap An Ae Ar:Option Addr} {cp cn ce cr:Nat} {f:Cg} {Au:Option Addr} {cu:Nat} {nv:List Int} {As:Option Addr} {cs:Nat} {s:List (List Bool)} (hf:Ho G Ap An Ae Ar cp cn ce cr f) (hu:Bt G (.slice Au nv.length cu) nv) (hsf:gK G (.slice As s.length cs) s) (hk:kE f nv) (hT:Tab G) (hso:SOk f s) :
  Ai prog 21 [.agg #[.slice Ap f.progs.length cp,.slice An f.nodes.length cn,.slice Ae f.edges.length ce,.slice Ar f.routes.length cr,.slice Au nv.length cu],.slice As s.length cs] G [] fun r _ H'=>H'=[]∧r=Vi 0:=by
 have hpl:=hk.g.pl
 have hsn:=hso.n
 refine Ai.of_T [(0,_),(1,_)] func21 rfl ntmps21 sM rfl fun w0 hs=>?_
 have hf0:=hf
 have hu0:=hu
 have hsf0:=hsf
 have hT0:=hT
 refine Wt 2 [] hs rfl<|O_s (Sb hs rfl fun b2 _ hs=>Wp 6 [0,0] hs rfl<|O_s (Sc (Ws hf hu hk hT) hs rfl fun v1 G' H' _ hR hG8 hs=>?_))
 obtain ⟨rfl,rfl⟩:=hR
 replace hs:=hs.n rfl
 replace hsf:=hsf.mono hG8
 refine Wp 15 [0,0,0,0,0] hs rfl<|O_s (Sa hs zeroValue3 rfl fun b6 _ hs=>O_n (Sd hs rfl rfl fun _ hs=>Wp 1 [0] hs rfl ?_))
 obtain ⟨_,hGbhQ6,hQ6,hs⟩:=hs.fixBlk (fun k _=>Hv k)
 replace hsf:=hsf.mono hGbhQ6
 replace hQ6:Bs _ b6 _:=hQ6
 refine Wu 5 [] hs rfl<|Zy hs (Yg rfl (hQ6 0 _ rfl)<|Zy hs (Cv rfl rfl rfl oM<|Wp 2 [] hs rfl<|Zg hs rfl (Dr (vs:=[_]) rfl<|Cl 20 rfl rfl (Sc (cfns_ok hsf hQ6 hso.r oM) hs rfl fun v2 G' H' _ hR hG23 hs=>?_))))
 obtain ⟨rfl,rfl⟩:=hR
 replace hs:=hs.n rfl
 refine Wp 8 [1,24,0] hs rfl<|Ah<|Zz results21 rfl ?_
 exact ⟨_,[],hs.done,rfl,rfl⟩
theorem plvn_ok {G:Ghost} {Ap An Ae Ar:Option Addr} {cp cn ce cr:Nat} {f:Cg} {Au:Option Addr} {cu:Nat} {nv:List Int} (hf:Ho G Ap An Ae Ar cp cn ce cr f) (hu:Bt G (.slice Au nv.length cu) nv) (hk:kE f nv) (hT:Tab G) :
  Ai prog 21 [.agg #[.slice Ap f.progs.length cp,.slice An f.nodes.length cn,.slice Ae f.edges.length ce,.slice Ar f.routes.length cr,.slice Au nv.length cu],Vn] G [] fun r _ H'=>H'=[]∧r=Vi 1:=by
 obtain ⟨hc0,hc1,hcn,hce,hcr⟩:=Qw hk.c
 refine Ai.of_T [(0,_),(1,_)] func21 rfl ntmps21 sM rfl fun w0 hs=>?_
 have hf0:=hf
 have hu0:=hu
 have hT0:=hT
 refine Wt 2 [] hs rfl<|O_s (Sb hs rfl fun b2 _ hs=>Wp 6 [0,0] hs rfl<|O_s (Sc (Ws hf hu hk hT) hs rfl fun v1 G' H' _ hR hG8 hs=>?_))
 obtain ⟨rfl,rfl⟩:=hR
 replace hs:=hs.n rfl
 refine Wp 15 [0,0,0,0,0] hs rfl<|O_s (Sa hs zeroValue3 rfl fun b6 _ hs=>O_n (Sd hs rfl rfl fun _ hs=>Wp 7 [0,0] hs rfl<|Zy hs (Hl rfl rfl rfl oM<|Wp 11 [1,24,0] hs rfl<|Ah<|Zz results21 rfl ?_)))
 exact ⟨_,[],hs.done,rfl,rfl⟩
theorem plvb_ok {G:Ghost} {Ap An Ae Ar:Option Addr} {cp cn ce cr:Nat} {f:Cg} {Au:Option Addr} {cu:Nat} {nv:List Int} (hf:Ho G Ap An Ae Ar cp cn ce cr f) (hu:Bt G (.slice Au nv.length cu) nv) (hfo:FOk f) (hT:Tab G) (hC:¬ Dm f=0) :
  Ai prog 21 [.agg #[.slice Ap f.progs.length cp,.slice An f.nodes.length cn,.slice Ae f.edges.length ce,.slice Ar f.routes.length cr,.slice Au nv.length cu],Vn] G [] fun r _ H'=>H'=[]∧r=Vi (Dm f):=by
 refine Ai.of_T [(0,_),(1,_)] func21 rfl ntmps21 sM rfl fun w0 hs=>?_
 have hf0:=hf
 have hu0:=hu
 have hT0:=hT
 refine Wt 2 [] hs rfl<|O_s (Sb hs rfl fun b2 _ hs=>Wp 6 [0,0] hs rfl<|O_s (Sc (zJ hf hu hfo hT hC) hs rfl fun v1 G' H' _ hR hG8 hs=>?_))
 obtain ⟨rfl,rfl⟩:=hR
 replace hs:=hs.n rfl
 refine Wp 5 [0] hs rfl<|Zy hs (Hl rfl rfl rfl (hC)<|Wp 7 [0,0] hs rfl<|Ah<|Zz results21 rfl ?_)
 exact ⟨_,[],hs.done,rfl,rfl⟩
theorem kG:places prog 35=some [(0,1),(1,1)]:=by kernel_rfl
theorem kH (c:List Nat→List Int):∀ (l:List (List Nat)) (b:Option (List Nat×List Int)) (o:List Nat),bE c b (l++[o])=match bE c b l with | none=>some (o,c o) | some (p,q)=>if (c o).length<q.length then some (o,c o) else some (p,q)
  | [],b,o=>by cases b<;>rfl
  | x::l,b,o=>kH c l _ o
def BstR (G:Ghost) (vo vc:Value):Option (List Nat×List Int)→Prop
  | none=>vo=.slice none 0 0∧vc=.slice none 0 0
  | some (o,c)=>Cc G vo o∧Bt G vc c
theorem BstR.mono {G G':Ghost} (h:G.le G') {vo vc:Value}:∀ {q:Option (List Nat×List Int)},BstR G vo vc q→BstR G' vo vc q
  | none,hq=>hq
  | some (_,_),hq=>⟨hq.1.mono h,hq.2.mono h⟩
theorem gC {f:Cg} {nv:List Int}:∀ i∈Ip f nv,i<f.nodes.length:=fun i hi=>List.mem_range.1 (List.mem_filter.1 hi).1
theorem zL {f:Cg} {nv:List Int} {n:Nat} (hn:(Ip f nv).length=n) {o:List Nat} (h:o∈Gk n [] (Ip f nv)):(∀ i∈o,i<f.nodes.length)∧o.length=n:=by
  obtain ⟨q,hq0,hq⟩:=bD n [] (Ip f nv) o hn h
  obtain rfl:o=q:=hq0
  exact ⟨fun i hi=>gC i (hq.subset hi),hq.length_eq.trans hn⟩
theorem zM {n:Nat} {p l:List Nat} (hl:l.length=n):¬ Gk n p l=[]:=fun h=>by
  have:=kD n p l l hl (.refl _)
  rw [h] at this;cases this
theorem zN {G:Ghost}:Cc G (Vn) []:=Sl.nil _ _
theorem gD {G:Ghost} {Ap An Ae Ar:Option Addr} {cp cn ce cr:Nat} {f:Cg} {Au:Option Addr} {cu:Nat} {nv:List Int} {As:Option Addr} {cs:Nat} {s:List (List Bool)} (hf:Ho G Ap An Ae Ar cp cn ce cr f) (hu:Bt G (.slice Au nv.length cu) nv) (hsf:gK G (.slice As s.length cs) s) {u:List Int} (hk:kE f nv) (hT:Tab G) (hso:SOk f s) (hU:Ja f u) :
  Ai prog 12 [.agg #[.slice Ap f.progs.length cp,.slice An f.nodes.length cn,.slice Ae f.edges.length ce,.slice Ar f.routes.length cr,.slice Au nv.length cu],.slice As s.length cs] G [] fun r G' H'=>H'=[]∧∃ vo vc o,r=.tuple #[.agg #[vo,vc],Vi 0]∧bE (Kr f nv s u) none (Gk (Ip f nv).length [] (Ip f nv))=some (o,Kr f nv s u o)∧Cc G' vo o∧Bt G' vc (Kr f nv s u o):=by
 refine Ai.of_TM [(0,_),(1,_)] func12 rfl ntmps12 sM rfl fun w0 hs=>?_
 have hf0:=hf
 have hu0:=hu
 have hsf0:=hsf
 have hT0:=hT
 refine Wt 2 [] hs rfl<|O_s (Sb hs rfl fun b2 _ hs=>O_s (Sb hs rfl fun b3 _ hs=>O_s (Sa hs zeroValue35 rfl fun b4 _ hs=>Wp 7 [0,2,1] hs rfl<|O_s (Sc (zK hf hu hsf hk hT hso) hs rfl fun v1 G' H' _ hR hG13 hs=>?_))))
 obtain ⟨rfl,rfl⟩:=hR
 replace hs:=hs.n rfl
 replace hf:=hf.mono hG13
 replace hu:=hu.mono hG13
 replace hsf:=hsf.mono hG13
 replace hT:=hT.mono hG13
 refine Wp 9 [0,0] hs rfl ?_
 have hs:=hs.f2
 obtain ⟨_,hGbhQu,hQu,hs⟩:=hs.fixBlk (fun k _=>Hv k)
 replace hf:=hf.mono hGbhQu
 replace hu:=hu.mono hGbhQu
 replace hsf:=hsf.mono hGbhQu
 replace hT:=hT.mono hGbhQu
 replace hQu:Bs _ b2 _:=hQu
 have hs:=hs.f1
 obtain ⟨_,hGbhQs,hQs,hs⟩:=hs.fixBlk (fun k _=>Hv k)
 replace hf:=hf.mono hGbhQs
 replace hu:=hu.mono hGbhQs
 replace hsf:=hsf.mono hGbhQs
 replace hT:=hT.mono hGbhQs
 replace hQu:=hQu.mono hGbhQs
 replace hQs:Bs _ b3 _:=hQs
 refine Wu 2 [] hs rfl<|O_s (Sa hs zeroValue35 rfl fun b7 _ hs=>Wp 3 [0] hs rfl<|O_s (Sa hs zeroValue4 rfl fun b8 _ hs=>O_n (Sd hs rfl rfl fun _ hs=>Wp 4 [0] hs rfl<|Zy hs (Cy (vs:=[.slice Ap f.progs.length cp,.slice An f.nodes.length cn,.slice Ae f.edges.length ce,.slice Ar f.routes.length cr,.slice Au nv.length cu]) isAgg45 sizeOf45 rfl hQu.whole rfl<|O_s (Sc (fZ hf hu hk.g.z hk.n) hs rfl fun v2 G' H' _ hR hG19 hs=>?_)))))
 obtain ⟨rfl,h19⟩:=hR
 obtain ⟨A19,c19,rfl,_⟩:=id h19
 replace hs:=hs.n rfl
 replace hf:=hf.mono hG19
 replace hu:=hu.mono hG19
 replace hsf:=hsf.mono hG19
 replace hT:=hT.mono hG19
 replace hQu:=hQu.mono hG19
 replace hQs:=hQs.mono hG19
 refine O_s (Sc (qD) hs rfl fun v3 G' H' _ hR hG20 hs=>?_)
 obtain ⟨rfl,br',bp',rfl,hQp,hQr⟩:=hR
 replace hs:=hs.n rfl
 replace hf:=hf.mono hG20
 replace hu:=hu.mono hG20
 replace hsf:=hsf.mono hG20
 replace hT:=hT.mono hG20
 replace hQu:=hQu.mono hG20
 replace hQs:=hQs.mono hG20
 replace h19:=h19.mono hG20
 refine Wp 1 [0] hs rfl ?_
 have hs:=hs.f2.f1.f2
 have hV:=bI _ _ _ _ _ _ _ _ [] (Ip f nv) rfl sM hQp hQr zN h19 (by have:=hk.u;simp;omega)
 obtain ⟨xs,hxs⟩:∃ xs,xs=Gk (Ip f nv).length [] (Ip f nv):=⟨_,rfl⟩
 rw [← hxs] at hV
 refine Wu 1 [] hs rfl<|oG (fun n G' H'=>∃ (q:Option (List Nat×List Int)) (vo vc:Value),H'=[.blk b7 35 [vo,vc],.blk b8 4 [.bool q.isSome],.blk b4 35 [Vn,Vn]]∧q=bE (Kr f nv s u) none (xs.take n)∧BstR G' vo vc q) (fun _ _ _=>False) hV (show St _ _ ([_,_,_]++[]) _ from hs) rfl func54 rfl kR ⟨none,_,_,rfl,rfl,rfl,rfl⟩ (fun _ _ _ _ h ⟨q,vo,vc,e,e2,h2⟩=>⟨q,vo,vc,e,e2,h2.mono h⟩) (fun _ _ _ _ _ h=>h) ?round ?done ?early
 case round =>
  rintro lq D rec n x v G' H2 hp ha hbd hst hpe hAg hx hv hle ⟨q,vo,vc,rfl,hq,hqR⟩
  obtain ⟨state,pending,fn',tmps,params,assign,body,defers⟩:=rec
  dsimp only at hp ha hbd hst hpe hAg
  subst hst hpe
  obtain ⟨ux,rfl,hxN⟩:=hv
  subst hp ha hbd
  replace hf:=hf.mono hle
  replace hu:=hu.mono hle
  replace hsf:=hsf.mono hle
  replace hT:=hT.mono hle
  replace hQu:=hQu.mono hle
  replace hQs:=hQs.mono hle
  obtain ⟨Ax,cx,rfl,_⟩:=id hxN
  obtain ⟨hxin,hxlen⟩:=zL (f:=f) (nv:=nv) rfl (hxs▸List.mem_of_getElem? hx)
  have hu6:=hk.u
  have hnx:xs.take (n+1)=xs.take n++[x]:=by rw [List.take_add_one,hx];rfl
  have hstep:=kH (Kr f nv s u) (xs.take n) none x
  rw [← hnx,← hq] at hstep
  rcases q with _ | ⟨pq,clq⟩
  ·
   obtain ⟨rfl,rfl⟩:=hqR
   dsimp only [Option.isSome] at hstep ⊢
   refine Dp.of_TX hAg rfl rfl sM rfl fun w1 hs =>Wt 2 [] hs rfl<|Cm ⟨hs,fun w2 hs=>?_⟩
   refine Wt 3 [] hs rfl<|Zy hs (Cy (vs:=[.slice Ap f.progs.length cp,.slice An f.nodes.length cn,.slice Ae f.edges.length ce,.slice Ar f.routes.length cr,.slice Au nv.length cu]) isAgg45 sizeOf45 rfl hQu.whole rfl<|Zy hs (Yg rfl (hQs 0 (.slice As s.length cs) rfl)<|Wp 1 [] hs rfl<|O_s (Sc (gB hf hu hsf hxN hk hT hU hxin oM hso) hs rfl fun v4 G' H' _ hR hG25 hs=>?_)))
   obtain ⟨rfl,h25⟩:=hR
   obtain ⟨A25,c25,rfl,_⟩:=id h25
   replace hs:=hs.n rfl
   replace hxN:=hxN.mono hG25
   refine Wp 18 [4,7,8,9,10,3,0] hs rfl<|O_s (Sc (pT hxN (Oj _) oM) hs rfl fun v5 G' H' _ hR hG37 hs=>?_)
   obtain ⟨rfl,hl37,_⟩:=hR
   obtain ⟨A37,c37,rfl,_⟩:=id hl37
   replace hs:=hs.n rfl
   replace h25:=h25.mono hG37
   refine Wp 1 [] hs rfl ?_
   skip
   refine Zy hs (Ba zeroValue35 rfl kG rfl (cs:=[_,_]) rfl<|O_n (Sg hs.f2 rfl (rfl) fun _ hs=>O_n (Sd hs.f3 rfl rfl fun _ hs=>?_)))
   have hs:=hs.f4.f1.f2.f4.f4
   exact Cm (⟨_,_,hs,.inl ⟨rfl,_,rfl,⟨some (x,Kr f nv s u x),_,_,rfl,hstep.symm,⟨Cc.ofSl hl37 rfl rfl,h25⟩⟩,Hq.cons (fun _ h=>h) (Hq.cons (fun _ h=>h) (Hq.cons (fun _ h=>h) (Hq.refl _)))⟩⟩)
  obtain ⟨hpN,hcI⟩:=hqR
  obtain ⟨Aq,caq,rfl,_⟩:=id hpN
  obtain ⟨Acq,ccq,rfl,_⟩:=id hcI
  dsimp only [Option.isSome] at hstep ⊢
  refine Dp.of_TX hAg rfl rfl sM rfl fun w1 hs =>Wt 2 [] hs rfl<|Cm ⟨hs,fun w2 hs=>?_⟩
  refine Wt 3 [] hs rfl<|Zy hs (Cy (vs:=[.slice Ap f.progs.length cp,.slice An f.nodes.length cn,.slice Ae f.edges.length ce,.slice Ar f.routes.length cr,.slice Au nv.length cu]) isAgg45 sizeOf45 rfl hQu.whole rfl<|Zy hs (Yg rfl (hQs 0 (.slice As s.length cs) rfl)<|Wp 1 [] hs rfl<|O_s (Sc (gB hf hu hsf hxN hk hT hU hxin oM hso) hs rfl fun v6 G' H' _ hR hG25 hs=>?_)))
  obtain ⟨rfl,h25⟩:=hR
  obtain ⟨A25,c25,rfl,_⟩:=id h25
  replace hs:=hs.n rfl
  replace hxN:=hxN.mono hG25
  replace hpN:=hpN.mono hG25
  replace hcI:=hcI.mono hG25
  refine Wp 12 [4,7,8,9,10,3,1,2] hs rfl<|Zg hs rfl (Yc rfl (fun h34=>?_) fun h34=>?_)
  ·
   refine Wp 5 [0] hs rfl<|O_s (Sc (pT hxN (Oj _) oM) hs rfl fun v7 G' H' _ hR hG37 hs=>?_)
   obtain ⟨rfl,hl37,_⟩:=hR
   obtain ⟨A37,c37,rfl,_⟩:=id hl37
   replace hs:=hs.n rfl
   replace h25:=h25.mono hG37
   refine Wp 1 [] hs rfl ?_
   skip
   refine Zy hs (Ba zeroValue35 rfl kG rfl (cs:=[_,_]) rfl<|O_n (Sg hs.f2 rfl (rfl) fun _ hs=>O_n (Sd hs.f3 rfl rfl fun _ hs=>?_)))
   have hs:=hs.f4.f1.f2.f4.f4
   exact Cm (⟨_,_,hs,.inl ⟨rfl,_,rfl,⟨some (x,Kr f nv s u x),_,_,rfl,by rw [hstep,if_pos oM],⟨Cc.ofSl hl37 rfl rfl,h25⟩⟩,Hq.cons (fun _ h=>h) (Hq.cons (fun _ h=>h) (Hq.cons (fun _ h=>h) (Hq.refl _)))⟩⟩)
  refine Wp 4 [0] hs rfl ?_
  have hs:=hs.f4.f4.f4.f4.f4
  exact ⟨_,_,hs,.inl ⟨rfl,_,rfl,⟨some (pq,clq),_,_,rfl,by rw [hstep,if_neg oM],⟨hpN,hcI⟩⟩,Hq.cons (fun _ h=>h) (Hq.cons (fun _ h=>h) (Hq.cons (fun _ h=>h) (Hq.refl _)))⟩⟩
 case done =>
  rintro lq D o' G' H2 w' ⟨q,vo,vc,rfl,hq,hqR⟩ hC hle hs
  replace hs:St _ _ (Cb []++_) _:=hs
  replace hs:St _ _ ([_,_,_]++Cb [D]) _:=(show St _ _ (_::_::([_,_,_]++Cb [])) _ from hs).mark
  obtain ⟨o,la,lb,hbs,_⟩:=bst_ok (Kr f nv s u) (hxs▸zM rfl:xs≠[])
  rw [List.take_length,hbs] at hq
  subst hq
  obtain ⟨hoN,hcI⟩:=hqR
  obtain ⟨Ao,co,rfl,_⟩:=id hoN
  obtain ⟨Ac,cc,rfl,_⟩:=id hcI
  replace hs:St _ _ (_::_::_::Cb [D]) _:=hs
  refine Wt 3 [0] hs rfl ?_
  have hs:=hs.front 2 rfl (H':=(_::_::_::Cb [D])) rfl
  refine O_n (Sg hs rfl (rfl) fun _ hs=>Wp 2 [0] hs rfl<|Ah ?_)
  have hs:=hs.front 1 rfl (H':=(_::_::_::Cb [D])) rfl
  have hs:=hs.front 2 rfl (H':=(_::_::_::Cb [D])) rfl
  have hs:=hs.front 2 rfl (H':=(_::_::_::Cb [D])) rfl
  replace hs:=hs.perm (List.perm_append_comm (l₁:=[_,_,_]) (l₂:=Cb [D]))
  refine Hg (Ds:=[D]) hs (vs:=[_,_]) results12 rfl (fun _ hs=>⟨⟨Bk 0 hs isAgg35 sizeOf35 rfl (cs:=[_,_]) rfl rfl,rfl,trivial⟩,?_⟩)
  try dsimp only [tup]
  exact ⟨_,[],hs.done,rfl,_,_,o,rfl,by rw [← hxs];exact hbs,hoN,hcI⟩
 case early =>
  intro _ _ _ _ _ _ _ h;exact h.elim
theorem vals_ok {G:Ghost} {Av:Option Addr} {nv cv:Nat} :
  Ai prog 58 [.slice Av nv cv] G [] fun r G' H'=>H'=[]∧∃ b,r=.func (.func 85) #[] #[Vp b]∧Bs G' b [.slice Av nv cv]:=by
 refine Ai.of_T [(0,_)] func58 rfl ntmps58 sM rfl fun w0 hs =>Wt 2 [] hs rfl<|O_s (Sb hs rfl fun b1 _ hs=>Wp 4 [0] hs rfl<|Zy hs (Dr (vs:=[_]) rfl<|Wp 2 [0] hs rfl<|Ah ?_))
 obtain ⟨_,hGbhQv,hQv,hs⟩:=hs.fixBlk (fun k _=>Hv k)
 replace hQv:Bs _ b1 _:=hQv
 refine Zz results58 rfl ?_
 exact ⟨_,[],hs.done,rfl,_,rfl,hQv⟩
theorem val1_ok {lp b:Nat} {G:Ghost} {Al:Option Addr} {cl:Nat} {l:List Int} {H0:List Res} {J:Nat→Ghost→List Res→Prop} (hb:Bs G b [.slice Al l.length cl]) (hl:Bt G (.slice Al l.length cl) l) (hll:l.length≤1000) (hJm:∀ n G1 G2 H,Ghost.le G1 G2→J n G1 H→J n G2 H)
  (hY:∀ n,(h:n<l.length)→∀ G' H',G.le G'→J n G' H'→Dp prog lp [Vi l[n]] G' H' fun r G'' H''=>r=Vt∧J (n+1) G'' H'') (hJ0:J 0 G H0) :
  Ai prog 85 [.func (.yield lp) #[] #[],Vp b] G H0 fun _ G' H'=>J l.length G' H':=by
 refine Ai.of_T [(0,_),(1,_)] func85 rfl ntmps85 sM rfl fun w0 hs=>?_
 have hb0:=hb
 have hl0:=hl
 refine Wt 2 [] hs rfl<|Zy hs (Yg rfl (hb 0 (.slice Al l.length cl) rfl)<|Wp 3 [0] hs rfl<|Zl [0,5,6,7] (fun m E w=>∃ (k:Nat) (G':Ghost) (H':List Res),k≤l.length∧J k G' H'∧m=l.length-k∧E=⟨[],[(0,.func (.yield lp) #[] #[]),(5,.slice Al l.length cl),(6,Vi ((l.length:Nat):Int)),(7,Vi (k:Int))]⟩∧St ⟨w0,G,Bl H0⟩ G' H' w) rfl (⟨0,_,_,by omega,hJ0,rfl,rfl,hs⟩) fun m E w hI=>?_)
 obtain ⟨k,G',H',hk,hJ,rfl,rfl,hs⟩:=hI
 have hb:=hb0.mono hs.le
 have hl:=hl0.mono hs.le
 refine Wt 2 [] hs rfl<|Zy hs (Yc rfl (fun h8=>?_) fun h8=>?_)
 ·
  refine Wp 8 [0] hs rfl<|Zy hs (Dd hl k underlying33 sizeOf3 rfl rfl rfl oM fun p9 hp9 =>Zy hs (Yg rfl (hp9)<|Wp 6 [0] hs rfl<|O_s (Ls (H1:=H') (H:=[]) Z39 rfl rfl (hY k oM _ _ hs.le hJ) fun v G'' H'' w' hR hG13 hs=>?_)))
  obtain ⟨rfl,hJ⟩:=hR
  rw [List.append_nil] at hs
  refine Wp 5 [0] hs rfl<|Zy hs (Ya (s:=((k+1:Nat):Int)) rfl<|Wp 1 [] hs rfl<|Zx [0,5,6,7] rfl ⟨k+1,_,_,by omega,hJ,rfl,rfl,hs⟩)
 refine Wp 4 [0] hs rfl ?_
 try dsimp only [Ex.At,Ex.sqs,Ex.sq,Ex.lp,Ex.bk]
 try rw [show Nat.beq _ _=true from Nat.beq_refl _,cond_true]
 refine Ff (vs:=[]) results85 rfl trivial ?_
 try dsimp only [tup]
 obtain rfl:k=l.length:=by omega
 exact ⟨_,_,hs,hJ⟩
theorem zO {b:Nat} {G:Ghost} {Al:Option Addr} {cl:Nat} {l:List Int} (hb:Bs G b [.slice Al l.length cl]) (hl:Bt G (.slice Al l.length cl) l) (hll:l.length≤1000) :
  Ai prog 105 [Vn,.func (.func 85) #[] #[Vp b]] G [] fun r _ H'=>H'=[.row 3 1 r l.length (l.map (.int .i64))]:=by
 refine Ai.of_TM [(0,_),(1,_)] func105 rfl ntmps105 sM rfl fun w0 hs =>Wt 2 [] hs rfl<|O_s (Sb hs rfl fun b2 _ hs=>Wp 7 [0,0] hs rfl ?_)
 have hs:=hs.nilRow 3 1
 have hs:=hs.f1.f1
 refine Wu 1 [] hs rfl<|Nu (H1:=[_,_]) (H:=[]) (R:=fun G' H2=>∃ (v:Value),H2=[.row 3 1 v l.length ((l.take l.length).map (.int .i64)),.blk b2 33 [v]]) hs rfl func85 rfl kR ?hit ?done
 case hit =>
  intro lp D rec hp ha hbd hst hpe hAg
  obtain ⟨state,pending,fn',tmps,params,assign,body,defers⟩:=rec
  dsimp only at hp ha hbd hst hpe hAg
  subst hst hpe
  refine Ai.mono (val1_ok (lp:=lp) (J:=fun n G' H'=>∃ (v:Value),H'=[.obj lp (.loop { state:=.ready,pending:=none,fn:=fn',tmps:=tmps,params:=params,assign:=assign,body:=body,defers:=defers }),.obj D (.deferred (some [])),.row 3 1 v n ((l.take n).map (.int .i64)),.blk b2 33 [v]]) hb hl hll (fun _ _ _ _ _ h=>h) ?round ⟨_,rfl⟩) ?fin
  case fin =>
   rintro r G' H' _ ⟨v,rfl⟩
   exact ⟨_,rfl,v,rfl⟩
  rintro n hn G' H' hle ⟨v7,rfl⟩
  subst hp ha hbd
  refine Dp.of_T hAg rfl rfl sM rfl fun w1 hs =>Wt 2 [] hs rfl<|Cm ⟨hs,fun w2 hs=>?_⟩
  refine Wt 4 [3] hs rfl<|O_s (Se hs zeroValue3 rfl fun v1 _ hs _=>?_)
  obtain ⟨_,hG10,hl10,hs⟩:=hs.fixRow (noMh hs ⟨fun _ h=>h,fun _ h=>h,fun _ h=>h,fun _ h=>h,trivial⟩)
  refine O_s (Bf hs.f2 underlying33 Ko rfl dC rfl rfl (hl10) (Fh rfl) oM oM fun v2 _ hs =>O_n (Sd hs.f3 rfl (hs.f3.rowOne 1 rfl) fun _ hs=>?_))
  have hs:=hs.f1.f3.f3
  refine Cm ⟨_,_,hs,rfl,v2,?_⟩
  rw [Ed hn,List.map_append];rfl
 case done =>
  rintro lp D o' G' H2 w' ⟨v7,rfl⟩ hle hs
  refine Wt 5 [3,0] hs rfl<|Ah ?_
  have hs:=hs.f2.f1
  refine Hg (Ds:=[D]) (show St _ _ (Cb [D]++_) _ from hs) (vs:=[_]) results105 rfl (fun _ hs=>⟨⟨rfl,trivial⟩,?_⟩)
  try dsimp only [tup]
  exact ⟨_,_,hs.weak hs.le (Cj _) (Ea [_] _),by rw [List.take_length]⟩
theorem zP {b:Nat} {G:Ghost} {Al:Option Addr} {cl:Nat} {l:List Int} (hb:Bs G b [.slice Al l.length cl]) (hl:Bt G (.slice Al l.length cl) l) (hll:l.length≤1000) :
  Ai prog 84 [.func (.func 85) #[] #[Vp b]] G [] fun r _ H'=>H'=[.row 3 1 r l.length (l.map (.int .i64))]:=by
 refine Ai.of_T [(0,_)] func84 rfl ntmps84 sM rfl fun w0 hs=>?_
 have hb0:=hb
 have hl0:=hl
 refine Wt 7 [0] hs rfl<|O_s (Sc (zO hb hl hll) hs rfl fun v1 G' H' _ hR hG4 hs=>?_)
 obtain rfl:=hR
 replace hs:=hs.n rfl
 refine Wp 2 [0] hs rfl<|Ah<|Zz results84 rfl ?_
 exact ⟨_,_,hs,rfl⟩
theorem srtd_ok {b:Nat} {G:Ghost} {Al:Option Addr} {cl:Nat} {l:List Int} (hb:Bs G b [.slice Al l.length cl]) (hl:Bt G (.slice Al l.length cl) l) (hll:l.length≤12) :
  Ai prog 57 [.func (.func 85) #[] #[Vp b]] G [] fun r G' H'=>H'=[]∧∃ l',l'.Perm l∧Srt Wn l'∧Bt G' r l':=by
 refine Ai.of_T [(0,_)] func57 rfl ntmps57 sM rfl fun w0 hs=>?_
 have hb0:=hb
 have hl0:=hl
 refine Wt 7 [0] hs rfl<|O_s (Sc (zP hb hl oM) hs rfl fun v1 G' H' _ hR hG5 hs=>?_)
 obtain rfl:=hR
 replace hs:=hs.n rfl
 refine Wp 5 [0] hs rfl<|O_s (Sc (pR hll) hs rfl fun v2 G' H' _ hR hG7 hs=>?_)
 obtain ⟨l',hpm,hsl,rfl⟩:=hR
 replace hs:=hs.n rfl
 refine Wp 6 [0,0] hs rfl<|Ah ?_
 obtain ⟨_,hG_hfr,hfr,hs⟩:=hs.fixRow noM
 refine Zz results57 rfl ?_
 exact ⟨_,[],hs.done,rfl,l',hpm,hsl,hfr⟩
theorem Rc {α:Type} {a b:List α} (h:a.length=b.length) (he:∀ j (h1:j<a.length) (h2:j<b.length),a[j]=b[j]):a=b:=List.ext_getElem h he
theorem zQ {α:Type} {a b:List α} {k:Nat} (h1:k<a.length) (h2:k<b.length) (h:¬ a[k]=b[k]):¬ a=b:=fun e=>h (by subst e;rfl)
theorem seql_ok {G:Ghost} {Aa Ab:Option Addr} {ca cb:Nat} {a b:List Int} (ha:Bt G (.slice Aa a.length ca) a) (hb:Bt G (.slice Ab b.length cb) b) (hal:a.length≤1000) :
  Ai prog 56 [.slice Aa a.length ca,.slice Ab b.length cb] G [] fun r _ H'=>H'=[]∧r=.bool (decide (a=b)):=by
 refine Ai.of_T [(0,_),(1,_)] func56 rfl ntmps56 sM rfl fun w0 hs=>?_
 have ha0:=ha
 have hb0:=hb
 refine Wt 11 [0] hs rfl<|Zy hs (Yc rfl (fun h10=>?_) fun h10=>?_)
 ·
  refine Wp 6 [0,0] hs rfl<|Ah<|Zz results56 rfl ?_
  exact ⟨_,[],hs.done,rfl,congrArg Value.bool (decide_eq_false fun e=>h10 (by rw [e])).symm⟩
 refine Wp 10 [0,0] hs rfl<|Zl [0,1,12,13] (fun m E w=>∃ (k:Nat) (G2:Ghost),k≤a.length∧(∀ j (h1:j<a.length) (h2:j<b.length),j<k→a[j]=b[j])∧m=a.length - k∧E=⟨[],[(0,.slice Aa a.length ca),(1,.slice Ab b.length cb),(12,Vi ((a.length:Nat):Int)),(13,Vi (k:Int))]⟩∧St ⟨w0,G,Bl []⟩ G2 [] w) rfl (⟨0,_,by omega,fun _ _ _ h=>absurd h (Nat.not_lt_zero _),rfl,rfl,hs⟩) fun m E w hI=>?_
 obtain ⟨k,G2,hk,hke,rfl,rfl,hs⟩:=hI
 have ha:=ha0.mono hs.le
 have hb:=hb0.mono hs.le
 refine Wt 2 [] hs rfl<|Zy hs (Yc rfl (fun h14=>?_) fun h14=>?_)
 ·
  refine Wp 12 [0,0] hs rfl<|Bb [0,1,2,3,4,5,6,7,8] hs kR ?_
  replace hs:=hs.drew
  refine Xr [0,1] [] hs rfl<|Xt 2 hs rfl (Dd ha k underlying33 sizeOf3 rfl rfl rfl oM fun p18 hp18 =>Xt 3 hs rfl (Yg rfl (hp18)<|Xr [4,5] [] hs rfl<|Xt 6 hs rfl (Dd hb k underlying33 sizeOf3 rfl rfl rfl oM fun p22 hp22 =>Xt 7 hs rfl (Yg rfl (hp22)<|Xt 8 hs rfl (Jd rfl rfl rfl (fun h24=>?_) (fun h24=>?_))))))
  ·
   dsimp only [Gq] at h24
   refine Xe (Zk [0,1,12,13,24] rfl<|Wu 5 [0] hs rfl<|Ah<|Zz results56 rfl ?_)
   exact ⟨_,[],hs.done,rfl,congrArg Value.bool (decide_eq_false (zQ (k:=k) oM oM (fun e=>h24 (by rw [e])))).symm⟩
  dsimp only [Gq] at h24
  have hEQ:a[k]'oM=b[k]'oM:=by omega
  refine Xe (Zk [0,1,12,13,24] rfl<|Wu 3 [] hs rfl<|Zy hs (Ya (s:=((k+1:Nat):Int)) rfl<|Wp 1 [] hs rfl<|Zx [0,1,12,13] rfl ⟨k+1,_,by omega,fun j h1 h2 hj=>(Nat.lt_or_ge j k).elim (hke j h1 h2) (fun h=>by obtain rfl:j=k:=oM;exact hEQ),rfl,rfl,hs⟩))
 refine Wp 4 [0] hs rfl<|Wu 4 [0] hs rfl<|Ah<|Zz results56 rfl ?_
 exact ⟨_,[],hs.done,rfl,congrArg Value.bool (decide_eq_true (Rc oM fun j h1 h2=>hke j h1 h2 oM)).symm⟩
theorem seqn_ok {G:Ghost} {Aa Ab:Option Addr} {ca cb:Nat} {a:List Int} {b:List Nat} (ha:Bt G (.slice Aa a.length ca) a) (hb:Cc G (.slice Ab b.length cb) b) (hal:a.length≤1000) :
    Ai prog 56 [.slice Aa a.length ca,.slice Ab b.length cb] G [] fun r _ H'=>H'=[]∧r=.bool (decide (a=b.map fun x:Nat=>(x:Int))):=by
  have h:=Qf hb
  have e:b.length=(b.map fun x:Nat=>(x:Int)).length:=by rw [List.length_map]
  rw [e] at h ⊢
  exact seql_ok ha h hal
def Ih (f:Cg) (nv u:List Int) (o:List Nat) (cl:List Int):Prop:=(∀ e∈cl,e∈u)∧cl.Pairwise (·<·)∧o.Perm (Ip f nv)
theorem kI {f:Cg} {nv:List Int}:(Ip f nv).Pairwise (·<·):=List.Pairwise.filter _ List.pairwise_lt_range
theorem srt_pw {l:List Int} (h:Srt Wn l):l.Pairwise (·≤·):=List.Pairwise.imp (fun {a b} h=>by simp only [Wn,decide_eq_false_iff_not] at h;omega) h
theorem zR {l':List Int} {o u:List Nat} (hp:l'.Perm (o.map fun x:Nat=>(x:Int))) (hs:Srt Wn l') (hu:u.Pairwise (·<·)):l'=(u.map fun x:Nat=>(x:Int))↔o.Perm u:=by
  constructor
  · rintro rfl
    have h:=hp.symm.map Int.toNat
    rw [List.map_map,List.map_map] at h
    have e:(Int.toNat ∘ fun x:Nat=>(x:Int))=id:=by funext x;simp
    rw [e,List.map_id,List.map_id] at h
    exact h
  · intro h
    have h2:l'.Perm (u.map fun x:Nat=>(x:Int)):=hp.trans (h.map _)
    refine List.Perm.eq_of_pairwise (le:=(·≤·)) (fun a b _ _ h1 h2=>by omega) (srt_pw hs) ?_ h2
    exact List.Pairwise.map _ (fun a b h=>by omega) hu
theorem nF {l:List Int} (h:∀ j (h:j<l.length),0<j→j<l.length→l[j-1]'oM<l[j]):l.Pairwise (·<·):=by
  rw [List.pairwise_iff_getElem]
  intro i j hi hj hij
  obtain ⟨d,rfl⟩:∃ d,j=i+1+d:=⟨j-i-1,by omega⟩
  clear hij
  induction d with
  | zero=>exact h (i+1) hj oM hj
  | succ d ih =>
    have h1:=ih oM
    have h2:=h (i+1+(d+1)) hj oM hj
    have h3:l[i+1+(d+1)-1]'oM=l[i+1+d]'oM:=by congr 1
    omega
theorem kJ {f:Cg} {u:List Int} (h:Ja f u) (h2:(fF f).length≤12):u.length≤12:=by
  have hnd:u.Nodup:=h.1.imp fun h=>by omega
  have hsub:∀ x∈u,x∈Wa f:=fun x hx=>(h.2 x).1 hx
  have:=sub_len hnd hsub
  unfold Wa at this
  rw [List.length_map] at this
  omega
theorem gE {G:Ghost} {Ap An Ae Ar:Option Addr} {cp cn ce cr:Nat} {f:Cg} {Au:Option Addr} {cu:Nat} {nv:List Int} (hf:Ho G Ap An Ae Ar cp cn ce cr f) (hu:Bt G (.slice Au nv.length cu) nv) {Ao Ac:Option Addr} {co cc:Nat} {o:List Nat} {cl:List Int} {u:List Int} (hoN:Cc G (.slice Ao o.length co) o) (hcI:Bt G (.slice Ac cl.length cc) cl) (hU:Ja f u) (hol:o.length≤12) (hcl:cl.length≤1000) (hk:kE f nv) (hT:Tab G) :
  Ai prog 35 [.agg #[.slice Ap f.progs.length cp,.slice An f.nodes.length cn,.slice Ae f.edges.length ce,.slice Ar f.routes.length cr,.slice Au nv.length cu],.agg #[.slice Ao o.length co,.slice Ac cl.length cc]] G [] fun r _ H'=>H'=[]∧∃ b,r=.bool b∧(b=true↔Ih f nv u o cl):=by
 refine Ai.of_T [(0,_),(1,_)] func35 rfl ntmps35 sM rfl fun w0 hs=>?_
 have hf0:=hf
 have hu0:=hu
 have hoN0:=hoN
 have hcI0:=hcI
 have hT0:=hT
 refine Wt 2 [] hs rfl<|O_s (Sb hs rfl fun b2 _ hs=>O_s (Sb hs rfl fun b3 _ hs=>Wp 6 [0,0,1] hs rfl<|O_s (Sc (fH hf hk.g.z hk.g.o hT hk.c hk.r) hs rfl fun v1 G' H' _ hR hG12 hs=>?_)))
 obtain ⟨rfl,vu,u',rfl,hU',huI,hul⟩:=hR
 replace hs:=hs.n rfl
 replace hf:=hf.mono hG12
 replace hu:=hu.mono hG12
 replace hoN:=hoN.mono hG12
 replace hcI:=hcI.mono hG12
 replace hT:=hT.mono hG12
 obtain rfl:=Uv hU hU'
 obtain ⟨Ae2,ce2,rfl,_⟩:=id huI
 refine Wp 6 [0] hs rfl ?_
 have hs:=hs.f1
 obtain ⟨_,hGbhQu,hQu,hs⟩:=hs.fixBlk (fun k _=>Hv k)
 replace hf:=hf.mono hGbhQu
 replace hu:=hu.mono hGbhQu
 replace hoN:=hoN.mono hGbhQu
 replace hcI:=hcI.mono hGbhQu
 replace hT:=hT.mono hGbhQu
 replace huI:=huI.mono hGbhQu
 replace hQu:Bs _ b2 _:=hQu
 refine Wu 8 [1,0,0] hs rfl ?_
 obtain ⟨Gp0,hGp⟩:=hs.name
 subst hGp
 have huI_0:=huI
 have hQu_0:=hQu
 refine Zl [2,3,5,16,17,18] (fun m E w=>∃ (k:Nat) (G2:Ghost),k≤cl.length∧(∀ j (h:j<cl.length),j<k→cl[j]∈u)∧(∀ j (h:j<cl.length),0<j→j<k→cl[j - 1]'oM<cl[j])∧Tm Gp0 G2∧m=cl.length - k∧E=⟨[],[(2,Vp b2),(3,Vp b3),(5,.slice Ae2 u.length ce2),(16,.slice Ac cl.length cc),(17,Vi ((cl.length:Nat):Int)),(18,Vi (k:Int))]⟩∧St ⟨w0,G,Bl []⟩ G2 [.blk b3 35 [.slice Ao o.length co,.slice Ac cl.length cc]] w) rfl (⟨0,_,by omega,fun _ _ h=>absurd h (Nat.not_lt_zero _),fun _ _ _ h=>absurd h (Nat.not_lt_zero _),Tm.refl _,rfl,rfl,hs⟩) fun m E w hI=>?_
 obtain ⟨k,G2,hkl,hke,hkp,hlg0,rfl,rfl,hs⟩:=hI
 have huI:=huI_0.mono hlg0
 have hQu:=hQu_0.mono hlg0
 have hf:=hf0.mono hs.le
 have hu:=hu0.mono hs.le
 have hoN:=hoN0.mono hs.le
 have hcI:=hcI0.mono hs.le
 have hT:=hT0.mono hs.le
 refine Wt 2 [] hs rfl<|Zy hs (Yc rfl (fun h19=>?_) fun h19=>?_)
 ·
  refine Wp 9 [0] hs rfl<|Zy hs (Dd hcI k underlying33 sizeOf3 rfl rfl rfl oM fun p21 hp21 =>Zy hs (Yg rfl (hp21)<|Wp 7 [0] hs rfl<|O_s (Sc (Sp huI oM) hs rfl fun v2 G' H' _ hR hG25 hs=>?_)))
  obtain ⟨rfl,rfl⟩:=hR
  replace hs:=hs.n rfl
  replace hcI:=hcI.mono hG25
  replace hlg0:=hlg0.mono hG25
  cases h25:u.contains (cl[k]'oM)
  ·
   refine Wp 5 [] hs rfl<|Eg 30 rfl rfl<|Eg 30 rfl rfl<|Eg 30 rfl rfl<|Eg 30 rfl rfl<|Eg 30 rfl rfl<|Eg 30 rfl rfl<|Eg 30 rfl rfl<|Eg 30 rfl rfl<|Wp 8 [0,0] hs rfl<|Ah<|Zz results35 rfl ?_
   exact ⟨_,[],hs.done,rfl,false,rfl,⟨fun h=>eB,fun h=>absurd (h.1 _ (List.getElem_mem (show k<cl.length by omega))) (by simpa using h25)⟩⟩
  refine Wp 3 [] hs rfl<|Zg hs rfl (Yc rfl (fun h29=>?_) fun h29=>?_)
  ·
   refine Wp 4 [1,0] hs rfl<|Zg hs rfl (Fp (c:=((k-1:Nat):Int)) rfl rfl oM oM<|Zg hs rfl (Dd hcI (k-1) underlying33 sizeOf3 rfl rfl rfl oM fun p35 hp35 =>Zg hs rfl (Yg rfl (hp35)<|Wp 1 [] hs rfl<|Zg hs rfl (Yc rfl (fun h38=>?_) fun h38=>?_))))
   ·
    refine Wp 8 [7,2,3,5,16,17,18,40,0] hs rfl<|Ah<|Zz results35 rfl ?_
    exact ⟨_,[],hs.done,rfl,false,rfl,⟨fun h=>eB,fun h=>by have:=(List.pairwise_iff_getElem.1 h.2.1) (k-1) k oM oM oM;omega⟩⟩
   refine Wp 6 [7,2,3,5,16,17,18,40] hs rfl<|Zy hs (Ya (s:=((k+1:Nat):Int)) rfl<|Wp 1 [] hs rfl<|Zx [2,3,5,16,17,18] rfl ⟨k+1,_,by omega,fun j h hj=>(Nat.lt_or_ge j k).elim (hke j h) (fun hh=>by obtain rfl:j=k:=oM;simpa using h25),fun j h h0 hj=>(Nat.lt_or_ge j k).elim (hkp j h h0) (fun hh=>by obtain rfl:j=k:=oM;omega),hlg0,rfl,rfl,hs⟩)
  refine Wp 15 [7,2,3,5,16,17,18,40] hs rfl<|Zy hs (Ya (s:=((k+1:Nat):Int)) rfl<|Wp 1 [] hs rfl<|Zx [2,3,5,16,17,18] rfl ⟨k+1,_,by omega,fun j h hj=>(Nat.lt_or_ge j k).elim (hke j h) (fun hh=>by obtain rfl:j=k:=oM;simpa using h25),fun j h h0 hj=>(Nat.lt_or_ge j k).elim (hkp j h h0) (fun hh=>by obtain rfl:j=k:=oM;omega),hlg0,rfl,rfl,hs⟩)
 refine Wp 4 [0] hs rfl<|Wu 1 [] hs rfl<|Bb [0,1,2,3,4,5,6,7] hs kR ?_
 replace hs:=hs.drew
 refine Xr [0,1] [0,0] hs rfl<|Xt 4 hs rfl (Cy (vs:=[.slice Ap f.progs.length cp,.slice An f.nodes.length cn,.slice Ae f.edges.length ce,.slice Ar f.routes.length cr,.slice Au nv.length cu]) isAgg45 sizeOf45 rfl hQu.whole rfl ?_)
 have hle:=hs.le
 refine Xo 2 rfl (Sc (vals_ok) hs rfl fun v3 G' H' _ hR hG44 hs=>?_)
 obtain ⟨rfl,bv,rfl,hQv⟩:=hR
 replace hs:=hs.n rfl
 replace hf:=hf.mono hG44
 replace hu:=hu.mono hG44
 replace hoN:=hoN.mono hG44
 refine Am hs hle hG44 (Df _) ?_
 have hoI:=Qf hoN
 have hQv':=hQv
 rw [show o.length=(o.map fun x:Nat=>(x:Int)).length from by rw [List.length_map]] at hQv' hoI
 have hle:=hs.le
 refine Xo 3 rfl (Sc (srtd_ok (l:=o.map fun x:Nat=>(x:Int)) hQv' hoI Lk) hs rfl fun v4 G' H' _ hR hG45 hs=>?_)
 obtain ⟨rfl,l',hpm,hsl,h45⟩:=hR
 obtain ⟨A45,c45,rfl,_⟩:=id h45
 replace hs:=hs.n rfl
 replace hf:=hf.mono hG45
 replace hu:=hu.mono hG45
 refine Am hs hle hG45 (Df _) ?_
 have hle:=hs.le
 refine Xo 5 rfl (Sc (fZ hf hu hk.g.z hk.n) hs rfl fun v5 G' H' _ hR hG47 hs=>?_)
 obtain ⟨rfl,h47⟩:=hR
 obtain ⟨A47,c47,rfl,_⟩:=id h47
 replace hs:=hs.n rfl
 replace h45:=h45.mono hG47
 refine Am hs hle hG47 (Df _) ?_
 have hle:=hs.le
 refine Xo 6 rfl (Sc (seqn_ok h45 h47 (by rw [hpm.length_eq];simp;omega)) hs rfl fun v6 G' H' _ hR hG48 hs=>?_)
 obtain ⟨rfl,rfl⟩:=hR
 replace hs:=hs.n rfl
 refine Am hs hle hG48 (Df _)<|Xr [7] [] hs rfl<|Xe (Zk [4] rfl<|Ah<|Zz results35 rfl ?_)
 obtain rfl:k=cl.length:=by omega
 exact ⟨_,[],hs.done,rfl,_,rfl,by rw [decide_eq_true_iff,zR hpm hsl kI];exact ⟨fun h=>⟨fun e he=>by obtain ⟨j,hj,rfl⟩:=List.getElem_of_mem he;exact hke j hj hj,nF hkp,h⟩,fun h=>h.2.2⟩⟩
theorem Wv {G:Ghost} {Ap An Ae Ar:Option Addr} {cp cn ce cr:Nat} {f:Cg} {Au:Option Addr} {cu:Nat} {nv:List Int} {As:Option Addr} {cs:Nat} {s:List (List Bool)} (hf:Ho G Ap An Ae Ar cp cn ce cr f) (hu:Bt G (.slice Au nv.length cu) nv) (hsf:gK G (.slice As s.length cs) s) {Ao Ac:Option Addr} {co cc:Nat} {o:List Nat} {cl:List Int} {u:List Int} (hoN:Cc G (.slice Ao o.length co) o) (hcI:Bt G (.slice Ac cl.length cc) cl) (hU:Ja f u) (hol:o.length≤12) (hcl:cl.length≤1000) (hk:kE f nv) (hT:Tab G) (hso:SOk f s) :
  Ai prog 15 [.agg #[.slice Ap f.progs.length cp,.slice An f.nodes.length cn,.slice Ae f.edges.length ce,.slice Ar f.routes.length cr,.slice Au nv.length cu],.slice As s.length cs,.agg #[.slice Ao o.length co,.slice Ac cl.length cc]] G [] fun r _ H'=>H'=[]∧∃ n e:Int,r=.tuple #[Vi n,Vi e]∧(e=0↔Ih f nv u o cl∧∀ x∈Kr f nv s u o,x∈cl)∧(e=310↔Ih f nv u o cl∧¬ ∀ x∈Kr f nv s u o,x∈cl)∧(e=1↔¬ Ih f nv u o cl)∧(e=0→n=((o.length+1:Nat):Int)):=by
 refine Ai.of_T [(0,_),(1,_),(2,_)] func15 rfl ntmps15 sM rfl fun w0 hs=>?_
 have hf0:=hf
 have hu0:=hu
 have hsf0:=hsf
 have hoN0:=hoN
 have hcI0:=hcI
 have hT0:=hT
 refine Wt 2 [] hs rfl<|O_s (Sb hs rfl fun b3 _ hs=>O_s (Sb hs rfl fun b5 _ hs=>Wp 8 [0,1] hs rfl<|O_s (Sc (zK hf hu hsf hk hT hso) hs rfl fun v1 G' H' _ hR hG13 hs=>?_)))
 obtain ⟨rfl,rfl⟩:=hR
 replace hs:=hs.n rfl
 replace hf:=hf.mono hG13
 replace hu:=hu.mono hG13
 replace hsf:=hsf.mono hG13
 replace hoN:=hoN.mono hG13
 replace hcI:=hcI.mono hG13
 replace hT:=hT.mono hG13
 refine Wp 14 [0,0,1,0] hs rfl<|O_s (Sc (gE hf hu hoN hcI hU hol hcl hk hT) hs rfl fun v2 G' H' _ hR hG19 hs=>?_)
 obtain ⟨rfl,bf,rfl,hbf⟩:=hR
 replace hs:=hs.n rfl
 replace hf:=hf.mono hG19
 replace hu:=hu.mono hG19
 replace hsf:=hsf.mono hG19
 replace hoN:=hoN.mono hG19
 replace hcI:=hcI.mono hG19
 replace hT:=hT.mono hG19
 cases hbv:bf
 ·
  refine Wp 8 [0,0] hs rfl<|Ah ?_
  refine Bi (vs:=[_,_]) results15 rfl ⟨rfl,rfl,trivial⟩ ?_
  try dsimp only [tup]
  have hform:¬ Ih f nv u o cl:=fun h=>by have:=hbf.2 h;rw [hbv] at this;cases this
  exact ⟨_,[],hs.done,rfl,_,_,rfl,⟨fun h=>absurd h dC,fun h=>absurd h.1 hform⟩,⟨fun h=>absurd h dC,fun h=>absurd h.1 hform⟩,⟨fun _=>hform,fun _=>rfl⟩,fun h=>absurd h dC⟩
 refine Wp 4 [0] hs rfl ?_
 have hform:Ih f nv u o cl:=hbf.1 hbv
 refine Wu 7 [1,0,0] hs rfl<|O_s (Sc (gB hf hu hsf hoN hk hT hU (fun i hi=>gC i (hform.2.2.subset hi)) oM hso) hs rfl fun v3 G' H' _ hR hG25 hs=>?_)
 obtain ⟨rfl,h25⟩:=hR
 obtain ⟨A25,c25,rfl,_⟩:=id h25
 replace hs:=hs.n rfl
 replace hcI:=hcI.mono hG25
 refine Wp 3 [4,5,25,26,27] hs rfl ?_
 have hs:=hs.f1
 have hs:=hs.drop
 have hcz:(Kr f nv s u o).length≤1000:=by have h1:=(zC (nv:=fW f nv) (ed:=nD f) (S:=My s) (U:=u) (r0:=Ig f) o).length_le;have h2:=kJ hU hk.r;unfold Kr;omega
 obtain ⟨Gp0,hGp⟩:=hs.name
 subst hGp
 have h25_0:=h25
 refine Zl [5,25,26,27] (fun m E w=>∃ (k:Nat) (G2:Ghost),k≤(Kr f nv s u o).length∧(∀ j (h:j<(Kr f nv s u o).length),j<k→(Kr f nv s u o)[j]∈cl)∧Tm Gp0 G2∧m=(Kr f nv s u o).length - k∧E=⟨[],[(5,Vp b5),(25,.slice A25 (Kr f nv s u o).length c25),(26,Vi (((Kr f nv s u o).length:Nat):Int)),(27,Vi (k:Int))]⟩∧St ⟨w0,G,Bl []⟩ G2 [.blk b5 35 [.slice Ao o.length co,.slice Ac cl.length cc]] w) rfl (⟨0,_,by omega,fun _ _ h=>absurd h (Nat.not_lt_zero _),Tm.refl _,rfl,rfl,hs⟩) fun m E w hI=>?_
 obtain ⟨k,G2,hkl,hke,hlg0,rfl,rfl,hs⟩:=hI
 have h25:=h25_0.mono hlg0
 have hcI:=hcI0.mono hs.le
 refine Wt 2 [] hs rfl<|Zy hs (Yc rfl (fun h28=>?_) fun h28=>?_)
 ·
  refine Wp 8 [0] hs rfl<|Zy hs (Dd h25 k underlying33 sizeOf3 rfl rfl rfl oM fun p29 hp29 =>Zy hs (Yg rfl (hp29)<|Wp 7 [0,1,0] hs rfl<|O_s (Sc (Sp hcI oM) hs rfl fun v4 G' H' _ hR hG34 hs=>?_)))
  obtain ⟨rfl,rfl⟩:=hR
  replace hs:=hs.n rfl
  replace hlg0:=hlg0.mono hG34
  cases h34:cl.contains ((Kr f nv s u o)[k]'oM)
  ·
   refine Wp 8 [0,0] hs rfl<|Ah ?_
   refine Bi (vs:=[_,_]) results15 rfl ⟨rfl,rfl,trivial⟩ ?_
   try dsimp only [tup]
   have hnall:¬ ∀ x∈Kr f nv s u o,x∈cl:=fun h=>absurd (h _ (List.getElem_mem (show k<(Kr f nv s u o).length by omega))) (by simpa using h34)
   exact ⟨_,[],hs.done,rfl,_,_,rfl,⟨fun h=>absurd h dC,fun h=>absurd h.2 hnall⟩,⟨fun _=>⟨hform,hnall⟩,fun _=>rfl⟩,⟨fun h=>absurd h dC,fun h=>absurd hform h⟩,fun h=>absurd h dC⟩
  refine Wp 5 [0] hs rfl<|Zy hs (Ya (s:=((k+1:Nat):Int)) rfl<|Wp 1 [] hs rfl<|Zx [5,25,26,27] rfl ⟨k+1,_,by omega,fun j h hj=>(Nat.lt_or_ge j k).elim (hke j h) (fun hh=>by obtain rfl:j=k:=oM;simpa using h34),hlg0,rfl,rfl,hs⟩)
 refine Wp 4 [0] hs rfl<|Wu 5 [0,0] hs rfl<|Zy hs (Ya (s:=((o.length+1:Nat):Int)) rfl<|Wp 3 [0] hs rfl<|Ah ?_)
 refine Bi (vs:=[_,_]) results15 rfl ⟨rfl,rfl,trivial⟩ ?_
 try dsimp only [tup]
 obtain rfl:k=(Kr f nv s u o).length:=by omega
 have hall:∀ x∈Kr f nv s u o,x∈cl:=fun x hx=>by obtain ⟨j,hj,rfl⟩:=List.getElem_of_mem hx;exact hke j hj hj
 exact ⟨_,[],hs.done,rfl,_,_,rfl,⟨fun _=>⟨hform,hall⟩,fun _=>rfl⟩,⟨fun h=>absurd h dC,fun h=>absurd hall h.2⟩,⟨fun h=>absurd h dC,fun h=>absurd hform h⟩,fun _=>rfl⟩
theorem ori_ok {G:Ghost} {v1:Value} {a b:Int} (h1:Bt G v1 [a,b]) :
  Ai prog 43 [v1] G [] fun r _ H'=>H'=[]∧r=Vi (if a=0 then b else a):=by
 obtain ⟨A1,c1,rfl,_⟩:=id h1
 show Ai _ _ [.slice A1 2 c1] _ _ _
 refine Ai.of_T [(0,_)] func43 rfl ntmps43 sM rfl fun w0 hs=>?_
 have h10:=h1
 refine Wt 15 [0,0,0] hs rfl<|Dt (En 3 (L:=[(3,_),(6,_),(7,_),(8,_)]) ⟨rfl,rfl,rfl,rfl,trivial⟩ (Gt<|Wt 11 [0] hs rfl<|Zy hs (Dd h1 0 underlying33 sizeOf3 rfl rfl rfl sM fun p10 hp10 =>Zy hs (Yg rfl (hp10)<|Wp 6 [0] hs rfl<|Zy hs (Yc rfl (fun h14=>?_) fun h14=>?_)))))
 ·
  refine Wp 7 [0,0] hs rfl<|Ah<|Zz results43 rfl ?_
  dsimp only [List.getElem_cons_zero,List.getElem_cons_succ] at *
  exact ⟨_,[],hs.done,rfl,congrArg (Value.int .i64) (by split<;>omega)⟩
 refine Wp 4 [0] hs rfl<|Zy hs (Ef (c:=(1)) rfl rfl dC dC<|Wp 1 [] hs rfl<|Cm ⟨[(3,_),(6,_),(7,_),(8,_)],⟨rfl,rfl,rfl,rfl,trivial⟩,Gt ?_⟩)
 refine Wt 11 [0] hs rfl<|Zy hs (Dd h1 1 underlying33 sizeOf3 rfl rfl rfl sM fun p10 hp10 =>Zy hs (Yg rfl (hp10)<|Wp 6 [0] hs rfl<|Zy hs (Yc rfl (fun h14=>?_) fun h14=>?_)))
 ·
  refine Wp 7 [0,0] hs rfl<|Ah<|Zz results43 rfl ?_
  dsimp only [List.getElem_cons_zero,List.getElem_cons_succ] at *
  exact ⟨_,[],hs.done,rfl,congrArg (Value.int .i64) (by split<;>omega)⟩
 refine Wp 4 [0] hs rfl<|Zy hs (Ef (c:=(2)) rfl rfl dC dC<|Wp 1 [] hs rfl<|Cm ⟨[(3,_),(6,_),(7,_),(8,_)],⟨rfl,rfl,rfl,rfl,trivial⟩,Gt ?_⟩)
 refine Wt 7 [0] hs rfl<|Wu 5 [1,2] hs rfl<|Ah<|Zz results43 rfl ?_
 dsimp only [List.getElem_cons_zero,List.getElem_cons_succ] at *
 exact ⟨_,[],hs.done,rfl,congrArg (Value.int .i64) (by split<;>omega)⟩
theorem ned1_ok {G:Ghost} {a b:Int×Int} :
  Ai prog 42 [.agg (prC a).toArray,.agg (prC b).toArray] G [] fun r _ H'=>H'=[]∧r=Vi (cmpQ a b):=by
 refine Ai.of_T [(0,_),(1,_)] func42 rfl ntmps42 sM rfl fun w0 hs =>Wt 2 [] hs rfl<|O_s (Sb hs rfl fun b2 _ hs=>O_s (Sb hs rfl fun b3 _ hs=>Wp 3 [0] hs rfl<|Bb [0,1,2,3,4,5,6,7,8,9,10,11,12] hs kR ?_))
 replace hs:=hs.drew
 refine Xt 0 hs rfl (Dq 0 underlying70 sizeOf3 rfl rfl rfl dC (m:=0) rfl<|Xr [1] [1] hs rfl<|Xt 2 hs rfl (Dq 0 underlying70 sizeOf3 rfl rfl rfl dC (m:=0) rfl<|Xr [3] [0] hs rfl<|Xt 5 hs rfl (Dq 1 underlying70 sizeOf3 rfl rfl rfl dC (m:=1) rfl<|Xr [6] [1] hs rfl<|Xt 7 hs rfl (Dq 1 underlying70 sizeOf3 rfl rfl rfl dC (m:=1) rfl<|Xr [8] [0] hs rfl ?_))))
 have hle:=hs.le
 refine Xo 4 rfl (Sc (jN) hs rfl fun v1 G' H' _ hR hG9 hs=>?_)
 obtain ⟨rfl,rfl⟩:=hR
 replace hs:=hs.n rfl
 refine Am hs hle hG9 (Df _) ?_
 have hle:=hs.le
 refine Xo 9 rfl (Sc (jN) hs rfl fun v2 G' H' _ hR hG14 hs=>?_)
 obtain ⟨rfl,rfl⟩:=hR
 replace hs:=hs.n rfl
 refine Am hs hle hG14 (Df _) ?_
 have hle:=hs.le
 refine Xo 10 rfl (Se hs zeroValue3 rfl fun v3 _ hs _=>?_)
 obtain ⟨_,hG15,hl15,hs⟩:=hs.fixRow noM
 refine Am hs hle hG15 (Df _) ?_
 have hle:=hs.le
 refine Xo 11 rfl (Sc (ori_ok (a:=cE a.1 b.1) (b:=cE a.2 b.2) hl15) hs rfl fun v4 G' H' _ hR hG16 hs=>?_)
 obtain ⟨rfl,rfl⟩:=hR
 replace hs:=hs.n rfl
 refine Am hs hle hG16 (Df _)<|Xr [12] [] hs rfl<|Xe (Zk [4] rfl<|Ah<|Zz results42 rfl ?_)
 exact ⟨_,[],hs.done,rfl,rfl⟩
theorem insy_ok {G:Ghost} :
  Ai prog 127 [Vn,Vi 0,Vi 0,.func (.func 42) #[] #[]] G [.row 70 2 (Vn) 0 []] fun r _ H'=>H'=[.row 70 2 (Vn) 0 []]:=by
 refine Ai.of_T [(0,_),(1,_),(2,_),(3,_)] func127 rfl ntmps127 sM rfl fun w0 hs =>Wt 3 [] hs rfl<|Zy hs (Ef (c:=(1)) rfl rfl dC dC<|Wp 2 [0] hs rfl<|Dt (En 1 (L:=[(0,_),(1,_),(2,_),(3,_),(8,_)]) ⟨rfl,rfl,rfl,rfl,rfl,trivial⟩ (Gt<|Wt 9 [0] hs rfl ?_)))
 try dsimp only [Ex.At,Ex.sqs,Ex.sq,Ex.lp,Ex.bk]
 try rw [show Nat.beq _ _=true from Nat.beq_refl _,cond_true]
 refine Ff (vs:=[]) results127 rfl trivial ?_
 try dsimp only [tup]
 exact ⟨_,_,hs,rfl⟩
theorem pdqy_ok {G:Ghost} {z:Int} :
  Ai prog 95 [Vn,Vi 0,Vi 0,Vi z,.func (.func 42) #[] #[]] G [.row 70 2 (Vn) 0 []] fun r _ H'=>H'=[.row 70 2 (Vn) 0 []]:=by
 refine Ai.of_T [(0,_),(1,_),(2,_),(3,_),(4,_)] func95 rfl ntmps95 sM rfl fun w0 hs =>Wt 8 [0,0] hs rfl<|Dt (En 1 (L:=[(0,_),(1,_),(2,_),(3,_),(4,_),(10,_),(11,_)]) ⟨rfl,rfl,rfl,rfl,rfl,rfl,rfl,trivial⟩ (Gt<|Wt 5 [] hs rfl<|Zy hs (Fp (c:=(0)) rfl rfl dC dC<|Wp 15 [0,0] hs rfl<|O_s (Sc (insy_ok) hs rfl fun v1 G' H' _ hR hG30 hs=>?_))))
 obtain rfl:=hR
 replace hs:=hs.n rfl
 refine Wp 1 [0] hs rfl<|Ah ?_
 refine Bi (vs:=[]) results95 rfl trivial ?_
 try dsimp only [tup]
 exact ⟨_,_,hs,rfl⟩
theorem srty_ok {G:Ghost} :
  Ai prog 67 [Vn,.func (.func 42) #[] #[]] G [.row 70 2 (Vn) 0 []] fun r _ H'=>H'=[.row 70 2 (Vn) 0 []]:=by
 refine Ai.of_T [(0,_),(1,_)] func67 rfl ntmps67 sM rfl fun w0 hs =>Wt 10 [0] hs rfl<|Zy hs (Dl underlying3 underlying162 (c:=0) rfl dC<|O_s (Sc (Wl (a:=0) oM) hs rfl fun v1 G' H' _ hR hG11 hs=>?_))
 obtain ⟨rfl,z,rfl⟩:=hR
 replace hs:=hs.n rfl
 refine Wp 1 [] hs rfl<|O_s (Sc (pdqy_ok) hs rfl fun v2 G' H' _ hR hG13 hs=>?_)
 obtain rfl:=hR
 replace hs:=hs.n rfl
 refine Cm (Ff (vs:=[]) results67 rfl trivial ?_)
 try dsimp only [tup]
 exact ⟨_,_,hs,rfl⟩
theorem swo_pr:Go.Sort.SWO (ltOf cmpQ) :=
  ⟨fun x=>aR.2 oM,fun x y z h1 h2=>Kx.2 (by have h1:=Kx.1 h1;have h2:=Kx.1 h2;omega),fun x y z h1 h2=>aR.2 (by have h1:=aR.1 h1;have h2:=aR.1 h2;omega)⟩
theorem zS {G:Ghost} {v:Value} {l:List (Int×Int)} (hn:l.length≤1000000):Ai prog 67 [v,.func (.func 42) #[] #[]] G [.row 70 2 v l.length (kV l)] fun _ _ H'=>∃ l',l'.Perm l∧Srt kU l'∧H'=[.row 70 2 v l'.length (kV l')]:=by
  intro w hs
  rcases aT hs with ⟨rfl,h0,hx⟩ | ⟨b,cap,rfl,_⟩
  · obtain rfl:=List.eq_nil_of_length_eq_zero h0
    exact (srty_ok.mono fun r G' H' _ h=>⟨[],List.Perm.refl _,List.Pairwise.nil,h⟩) w hs
  · exact ((zA (k:=2) (enc:=prC) Tryz.sortPr isAgg70 sizeOf70 (fun _=>rfl) (fun x v hv=>by simp only [prC,List.mem_cons,List.not_mem_nil,or_false] at hv;rcases hv with rfl | rfl<;>rfl) swo_pr (enters_of func42 kR rfl) (fun G x y=>ned1_ok.mono fun r G' H' _ h=>h.symm) rfl (Nat.lt_of_le_of_lt hn dC)).mono fun r G' H' _ ⟨l',h1,h2,h3⟩=>⟨l',h1,h2,by rw [h1.length_eq];exact h3⟩) w hs
theorem keyU:qZ prog 70 eK:=by
  refine qZ.asked (td:=.array 2 3) underlying70 ?_ ?_ ?_ ?_ ?_
  · rintro ⟨a,b⟩ ⟨c,d⟩ h
    simp only [eK] at h
    obtain ⟨rfl,rfl⟩:=lF.1 h
    rfl
  · rintro ⟨a,b⟩
    simp [eK,K2,Instr.sameBits]
  · rintro em ⟨a,b⟩ w
    exact Qk em 9998 underlying70 sizeOf3 isAgg3 underlying3 _ _
  · rintro ⟨a,b⟩ ⟨c,d⟩;rfl
  · rintro ⟨a,b⟩ ⟨c,d⟩ w
    show (Op.equalIn (9998+2) _ _ _).run _ w=_
    simp only [eK,K2]
    rw [Ty 9998 underlying70 sizeOf3 isAgg3 underlying3]
    congr 1
    rw [Bool.eq_iff_iff];simp only [Bool.and_eq_true,decide_eq_true_eq,Prod.mk.injEq]
def Vr (G:Ghost) (b:Nat) (ks:List (Int×Int)):Prop:=G b=some (.map (esT eK ks) ks.length)
theorem Vr.mono {G G':Ghost} (h:G.le G') {b:Nat} {ks:List (Int×Int)} (hm:Vr G b ks):Vr G' b ks:=h _ _ hm
theorem nd_le {α:Type} [DecidableEq α] {l m:List α} (hn:l.Nodup) (h:∀ e∈l,e∈m):l.length≤m.length:=by
  induction l generalizing m with
  | nil=>exact Nat.zero_le _
  | cons a l ih =>
    rw [List.nodup_cons] at hn
    have ha:=h a List.mem_cons_self
    have:=ih (m:=m.erase a) hn.2 fun e he=>(List.mem_erase_of_ne (fun e2=>hn.1 (by rw [← e2];exact he))).2 (h e (List.mem_cons_of_mem _ he))
    rw [List.length_erase_of_mem ha] at this
    have hm:0<m.length:=List.length_pos_of_mem ha
    rw [List.length_cons];omega
theorem nd_lt {α:Type} [DecidableEq α] {d k:List α} {a:α} (h:d.Nodup) (hs:∀ a∈d,a∈k) (ha:a∈k) (hn:¬ a∈d):d.length<k.length:=by
  have:=nd_le (l:=a::d) (m:=k) (List.nodup_cons.2 ⟨hn,h⟩) (fun x hx=>(List.mem_cons.1 hx).elim (fun e=>e▸ha) (hs x))
  rw [List.length_cons] at this;omega
theorem nd_snoc {α:Type} {d:List α} {a:α} (h:d.Nodup) (hn:¬ a∈d):(d++[a]).Nodup:=by
  rw [List.nodup_append];exact ⟨h,by simp,fun x hx y hy e=>by rw [List.mem_singleton.1 hy] at e;exact hn (e▸hx)⟩
theorem nd_perm {α:Type} [DecidableEq α] {d k:List α} (h:d.Nodup) (hk:k.Nodup) (hs:∀ a∈d,a∈k) (ha:∀ a∈k,a∈d):d.Perm k :=
  (List.perm_ext_iff_of_nodup h hk).2 fun a=>⟨hs a,ha a⟩
theorem mkey_ok {G:Ghost} {bm:Nat} :
  Ai prog 46 [.map (some bm)] G [] fun r G' H'=>H'=[]∧∃ b,r=.func (.func 68) #[] #[Vp b]∧Bs G' b [.map (some bm)]:=by
 refine Ai.of_T [(0,_)] func46 rfl ntmps46 sM rfl fun w0 hs =>Wt 2 [] hs rfl<|O_s (Sb hs rfl fun b1 _ hs=>Wp 4 [0] hs rfl<|Zy hs (Dr (vs:=[_]) rfl<|Wp 2 [0] hs rfl<|Ah ?_))
 obtain ⟨_,hGbhQv,hQv,hs⟩:=hs.fixBlk (fun k _=>Hv k)
 replace hQv:Bs _ b1 _:=hQv
 refine Zz results46 rfl ?_
 exact ⟨_,[],hs.done,rfl,_,rfl,hQv⟩
theorem mky1_ok {lp b bm:Nat} {G:Ghost} {ks:List (Int×Int)} {H0:List Res} {J:List (Int×Int)→Ghost→List Res→Prop} (hb:Bs G b [.map (some bm)]) (hm:Vr G bm ks) (hnd:ks.Nodup) (hJm:∀ n G1 G2 H,Ghost.le G1 G2→J n G1 H→J n G2 H)
  (hY:∀ done a G' H',a∈ks→¬ a∈done→done.Nodup→(∀ x∈done,x∈ks)→G.le G'→J done G' H'→Dp prog lp [.agg (prC a).toArray] G' H' fun r G'' H''=>r=Vt∧J (done++[a]) G'' H'') (hJ0:J [] G H0) :
  Ai prog 68 [.func (.yield lp) #[] #[],Vp b] G H0 fun _ G' H'=>∃ done,done.Perm ks∧J done G' H':=by
 refine Ai.of_T [(0,_),(1,_)] func68 rfl ntmps68 sM rfl fun w0 hs=>?_
 have hb0:=hb
 have hm0:=hm
 refine Wt 2 [] hs rfl<|Zy hs (Yg rfl (hb 0 (.map (some bm)) rfl)<|O_s (uO hs hm underlying88 rfl fun it _ hs =>Wp 1 [0] hs rfl<|Zl [0,5] (fun m E w=>∃ (done:List (Int×Int)) (G':Ghost) (H':List Res),done.Nodup∧(∀ x∈done,x∈ks)∧J done G' H'∧m=ks.length - done.length∧E=⟨[],[(0,.func (.yield lp) #[] #[]),(5,Vp it)]⟩∧St ⟨w0,G,Bl H0⟩ G' (.obj it (itT bm ks done)::H') w) rfl (⟨[],_,_,List.nodup_nil,fun _ h=>eB,hJm _ _ _ _ hs.le hJ0,rfl,rfl,hs⟩) fun m E w hI=>?_))
 obtain ⟨done,G',H',hdn,hds,hJ,rfl,rfl,hs⟩:=hI
 have hb:=hb0.mono hs.le
 have hm:=hm0.mono hs.le
 refine Wt 2 [] hs rfl<|O_s (S_nextT hs hm hnd hdn hds rfl (fun hall _ hs=>?_) (fun a ha hna _ hs=>?_))
 ·
  replace hall:∀ a∈ks,a∈done:=hall
  refine Wp 5 [0] hs rfl ?_
  try dsimp only [Ex.At,Ex.sqs,Ex.sq,Ex.lp,Ex.bk]
  try rw [show Nat.beq _ _=true from Nat.beq_refl _,cond_true]
  refine Ff (vs:=[]) results68 rfl trivial ?_
  try dsimp only [tup]
  exact ⟨_,_,hs.drop,done,nd_perm hdn hnd hds hall,hJ⟩
 refine Wp 8 [0] hs rfl<|Zy hs (uP (enc:=eK) 0 rfl hm ha rfl<|Wp 1 [] hs rfl<|O_s (Sa hs zeroValue70 rfl fun b3 _ hs=>O_n (Sg hs rfl (rfl) fun _ hs=>Wp 5 [0,0] hs rfl ?_)))
 have hs:=hs.front 1 rfl (H':=(_::_::H')) rfl
 have hs:=hs.front 1 rfl (H':=(_::_::H')) rfl
 have hs:=hs.drop
 have hs:=hs.swap (A:=[_])
 refine O_s (Ls (H1:=H') (H:=[.obj it _]) hs rfl rfl (hY done _ _ _ ha hna hdn hds hs.le hJ) fun v G'' H'' w' hR hG12 hs=>?_)
 obtain ⟨rfl,hJ⟩:=hR
 have hs:=hs.swap
 refine Wp 4 [0] hs rfl ?_
 refine ⟨_,?_,[(0,_),(5,_)],⟨rfl,rfl,trivial⟩,⟨done++[a],_,_,nd_snoc hdn hna,fun x hx=>(List.mem_append.1 hx).elim (hds x) (fun h=>by rw [List.mem_singleton.1 h];exact ha),hJ,rfl,rfl,hs⟩⟩
 have:=nd_lt hdn hds ha hna;simp;omega
theorem asqp_ok {b bm:Nat} {G:Ghost} {ks:List (Int×Int)} (hb:Bs G b [.map (some bm)]) (hm:Vr G bm ks) (hnd:ks.Nodup) (hkl:ks.length≤1000000) :
  Ai prog 94 [Vn,.func (.func 68) #[] #[Vp b]] G [] fun r _ H'=>∃ q,q.Perm ks∧H'=[.row 70 2 r q.length (kV q)]:=by
 refine Ai.of_TM [(0,_),(1,_)] func94 rfl ntmps94 sM rfl fun w0 hs =>Wt 2 [] hs rfl<|O_s (Sb hs rfl fun b2 _ hs=>Wp 7 [0,0] hs rfl ?_)
 have hs:=hs.nilRow 70 2
 have hs:=hs.f1.f1
 refine Wu 1 [] hs rfl<|Nu (H1:=[_,_]) (H:=[]) (R:=fun G' H2=>∃ (v:Value) (q:List (Int×Int)),q.Perm ks∧H2=[.row 70 2 v q.length (kV q),.blk b2 40 [v]]) hs rfl func68 rfl kR ?hit ?done
 case hit =>
  intro lp D rec hp ha hbd hst hpe hAg
  obtain ⟨state,pending,fn',tmps,params,assign,body,defers⟩:=rec
  dsimp only at hp ha hbd hst hpe hAg
  subst hst hpe
  refine Ai.mono (mky1_ok (lp:=lp) (J:=fun q G' H'=>∃ (v:Value),H'=[.obj lp (.loop { state:=.ready,pending:=none,fn:=fn',tmps:=tmps,params:=params,assign:=assign,body:=body,defers:=defers }),.obj D (.deferred (some [])),.row 70 2 v q.length (kV q),.blk b2 40 [v]]) hb hm hnd (fun _ _ _ _ _ h=>h) ?round ⟨_,rfl⟩) ?fin
  case fin =>
   rintro r G' H' _ ⟨q,hq,v,rfl⟩
   exact ⟨_,rfl,v,q,hq,rfl⟩
  rintro q a G' H' hak hna hqn hqs hle ⟨v7,rfl⟩
  have hql:=nd_lt hqn hqs hak hna
  subst hp ha hbd
  refine Dp.of_TB hAg rfl rfl sM rfl fun w1 hs=>?_
  refine Zr<|O_s (Sa hs zeroValue70 rfl fun b5 _ hs=>O_n (Em hs sizeOf70 rfl rfl (vs:=[_,_]) rfl (rfl) sM (cs':=[_,_]) rfl fun _ hs=>?_))
  have hs:=hs.f4.f4.f4.f4
  refine Cm ⟨_,_,hs,fun w2 hs=>?_⟩
  refine Wt 4 [3,4] hs rfl<|O_s (Bw hs underlying40 sizeOf70 zeroValue70 rfl rfl dC dC rfl (cs:=[_,_]) rfl rfl fun v1 _ hs _=>?_)
  obtain ⟨_,hG10,hl10,hs⟩:=hs.fixRow (eJ hs (Hq.cm 0 rfl (fun _ h=>h) (Hq.cm 1 rfl (fun _ h=>h) (Hq.cm 2 rfl (fun _ h=>h) (Hq.cm 3 rfl (fun _ h=>h) (Hq.nil _))))))
  refine O_s (Bf hs.f2 underlying40 TI70 rfl dC rfl rfl (hl10) ((fun y hy=>by simp only [List.mem_cons,List.not_mem_nil,or_false] at hy;rcases hy with rfl | rfl<;>rfl)) oM oM fun v2 _ hs =>O_n (Sd hs.f3 rfl (hs.f3.rowOne 1 rfl) fun _ hs=>?_))
  have hs:=hs.f1.f3.f3.f4
  have hs:=hs.drop
  refine Cm ⟨_,_,hs,rfl,v2,?_⟩
  rw [List.length_append,fE];rfl
 case done =>
  rintro lp D o' G' H2 w' ⟨v7,q,hq,rfl⟩ hle hs
  refine Wt 5 [3,0] hs rfl<|Ah ?_
  have hs:=hs.f2.f1
  refine Hg (Ds:=[D]) (show St _ _ (Cb [D]++_) _ from hs) (vs:=[_]) results94 rfl (fun _ hs=>⟨⟨rfl,trivial⟩,?_⟩)
  try dsimp only [tup]
  exact ⟨_,_,hs.weak hs.le (Cj _) (Ea [_] _),q,hq,rfl⟩
theorem cllp_ok {b bm:Nat} {G:Ghost} {ks:List (Int×Int)} (hb:Bs G b [.map (some bm)]) (hm:Vr G bm ks) (hnd:ks.Nodup) (hkl:ks.length≤1000000) :
  Ai prog 66 [.func (.func 68) #[] #[Vp b]] G [] fun r _ H'=>∃ q,q.Perm ks∧H'=[.row 70 2 r q.length (kV q)]:=by
 refine Ai.of_T [(0,_)] func66 rfl ntmps66 sM rfl fun w0 hs=>?_
 have hb0:=hb
 have hm0:=hm
 refine Wt 7 [0] hs rfl<|O_s (Sc (asqp_ok hb hm hnd hkl) hs rfl fun v1 G' H' _ hR hG4 hs=>?_)
 obtain ⟨q,hq,rfl⟩:=hR
 replace hs:=hs.n rfl
 refine Wp 2 [0] hs rfl<|Ah<|Zz results66 rfl ?_
 exact ⟨_,_,hs,q,hq,rfl⟩
theorem srfn_ok {b bm:Nat} {G:Ghost} {ks:List (Int×Int)} (hb:Bs G b [.map (some bm)]) (hm:Vr G bm ks) (hnd:ks.Nodup) (hkl:ks.length≤1000000) :
  Ai prog 45 [.func (.func 68) #[] #[Vp b],.func (.func 42) #[] #[]] G [] fun r G' H'=>H'=[]∧∃ q,q.Perm ks∧Srt kU q∧kT G' r q:=by
 refine Ai.of_T [(0,_),(1,_)] func45 rfl ntmps45 sM rfl fun w0 hs=>?_
 have hb0:=hb
 have hm0:=hm
 refine Wt 7 [0] hs rfl<|O_s (Sc (cllp_ok hb hm hnd hkl) hs rfl fun v1 G' H' _ hR hG7 hs=>?_)
 obtain ⟨q,hq,rfl⟩:=hR
 replace hs:=hs.n rfl
 refine Wp 6 [0] hs rfl<|O_s (Sc (zS (by rw [hq.length_eq];exact hkl)) hs rfl fun v2 G' H' _ hR hG10 hs=>?_)
 obtain ⟨l',hpm,hsl,rfl⟩:=hR
 replace hs:=hs.n rfl
 refine Wp 6 [0,0] hs rfl<|Ah ?_
 obtain ⟨_,hG_hfr,hfr,hs⟩:=hs.fixRow noM
 refine Zz results45 rfl ?_
 exact ⟨_,[],hs.done,rfl,l',hpm.trans hq,hsl,fI hfr⟩
def tF (f:Cg) (x:List Int) (e:Int):Int×Int:=(x.getD (nD f e).1 0,x.getD (nD f e).2 0)
def gF (f:Cg) (nv u:List Int) (o:List Nat) (cl:List Int) (n:Nat) (p:Int×Int):Prop:=∃ (j:Nat) (x:List Int),j<n∧(fY f nv o)[j]?=some x∧∃ e∈u,e∉cl∧p=tF f x e
theorem zT {f:Cg} {nv u:List Int} {o:List Nat} {cl:List Int} {n:Nat} {x:List Int} (hx:(fY f nv o)[n]?=some x) {p:Int×Int}:(gF f nv u o cl n p∨∃ e∈u.take u.length,e∉cl∧p=tF f x e)↔gF f nv u o cl (n+1) p:=by
  rw [List.take_length]
  constructor
  · rintro (⟨j,y,hj,hy,h⟩ | h)
    · exact ⟨j,y,by omega,hy,h⟩
    · exact ⟨n,x,by omega,hx,h⟩
  · rintro ⟨j,y,hj,hy,h⟩
    rcases Nat.lt_or_ge j n with h1 | h1
    · exact .inl ⟨j,y,h1,hy,h⟩
    · obtain rfl:j=n:=by omega
      rw [hx] at hy;injection hy with hy;subst hy
      exact .inr h
theorem qF {α:Type} {u:List α} {k:Nat} (h:k<u.length) {P:α→Prop}:(∃ e∈u.take (k+1),P e)↔(∃ e∈u.take k,P e)∨P u[k]:=by
  rw [Ed h]
  constructor
  · rintro ⟨e,he,hp⟩
    rcases List.mem_append.1 he with he | he
    · exact .inl ⟨e,he,hp⟩
    · rw [List.mem_singleton.1 he] at hp;exact .inr hp
  · rintro (⟨e,he,hp⟩ | hp)
    · exact ⟨e,List.mem_append_left _ he,hp⟩
    · exact ⟨_,List.mem_append_right _ (List.mem_singleton.2 rfl),hp⟩
theorem zU {α:Type} [DecidableEq α] {ks:List α} {a:α}:(Qn ks a).length≤ks.length+1:=by unfold Qn;split<;>simp
theorem qG {G:Ghost} {Ap An Ae Ar:Option Addr} {cp cn ce cr:Nat} {f:Cg} {Au:Option Addr} {cu:Nat} {nv:List Int} (hf:Ho G Ap An Ae Ar cp cn ce cr f) (hu:Bt G (.slice Au nv.length cu) nv) {Ao Ac:Option Addr} {co cc:Nat} {o:List Nat} {cl:List Int} {u:List Int} (hoN:Cc G (.slice Ao o.length co) o) (hcI:Bt G (.slice Ac cl.length cc) cl) (hU:Ja f u) (hol:o.length≤12) (hcl:cl.length≤1000) (hk:kE f nv) (hT:Tab G) (hform:Ih f nv u o cl) (h12:(fY f nv o).length*u.length≤1000000) :
  Ai prog 17 [.agg #[.slice Ap f.progs.length cp,.slice An f.nodes.length cn,.slice Ae f.edges.length ce,.slice Ar f.routes.length cr,.slice Au nv.length cu],.agg #[.slice Ao o.length co,.slice Ac cl.length cc]] G [] fun r G' H'=>H'=[]∧∃ v q,r=.tuple #[v,Vi 0]∧kT G' v q∧Srt kU q∧q.Nodup∧∀ p,p∈q↔gF f nv u o cl (fY f nv o).length p:=by
 refine Ai.of_TM [(0,_),(1,_)] func17 rfl ntmps17 sM rfl fun w0 hs=>?_
 have hf0:=hf
 have hu0:=hu
 have hoN0:=hoN
 have hcI0:=hcI
 have hT0:=hT
 refine Wt 2 [] hs rfl<|O_s (Sb hs rfl fun b2 _ hs=>O_s (Sb hs rfl fun b3 _ hs=>Wp 7 [0,1] hs rfl<|O_s (Sc (Ws hf hu hk hT) hs rfl fun v1 G' H' _ hR hG15 hs=>?_)))
 obtain ⟨rfl,rfl⟩:=hR
 replace hs:=hs.n rfl
 replace hf:=hf.mono hG15
 replace hu:=hu.mono hG15
 replace hoN:=hoN.mono hG15
 replace hcI:=hcI.mono hG15
 replace hT:=hT.mono hG15
 refine Wp 14 [0,0,1,0] hs rfl<|O_s (Sc (gE hf hu hoN hcI hU hol hcl hk hT) hs rfl fun v2 G' H' _ hR hG21 hs=>?_)
 obtain ⟨rfl,bf,rfl,hbf⟩:=hR
 replace hs:=hs.n rfl
 replace hf:=hf.mono hG21
 replace hu:=hu.mono hG21
 replace hoN:=hoN.mono hG21
 replace hcI:=hcI.mono hG21
 replace hT:=hT.mono hG21
 obtain rfl:bf=true:=hbf.2 hform
 refine Wp 8 [0,0,1] hs rfl<|O_s (Sc (fH hf hk.g.z hk.g.o hT hk.c hk.r) hs rfl fun v3 G' H' _ hR hG26 hs=>?_)
 obtain ⟨rfl,vu,u',rfl,hU',huI,hul⟩:=hR
 replace hs:=hs.n rfl
 replace hf:=hf.mono hG26
 replace hu:=hu.mono hG26
 replace hoN:=hoN.mono hG26
 replace hcI:=hcI.mono hG26
 replace hT:=hT.mono hG26
 obtain rfl:=Uv hU hU'
 obtain ⟨Ae2,ce2,rfl,_⟩:=id huI
 refine Wp 3 [] hs rfl<|O_s (Sa hs zeroValue33 rfl fun b7 _ hs=>O_n (Sd hs rfl rfl fun _ hs=>Wp 2 [3,2,3,7] hs rfl ?_))
 have hs:=hs.f2
 obtain ⟨_,hGbhQu,hQu,hs⟩:=hs.fixBlk (fun k _=>Hv k)
 replace hf:=hf.mono hGbhQu
 replace hu:=hu.mono hGbhQu
 replace hoN:=hoN.mono hGbhQu
 replace hcI:=hcI.mono hGbhQu
 replace hT:=hT.mono hGbhQu
 replace huI:=huI.mono hGbhQu
 replace hQu:Bs _ b2 _:=hQu
 have hs:=hs.f1
 obtain ⟨_,hGbhQp,hQp,hs⟩:=hs.fixBlk (fun k _=>Hv k)
 replace hf:=hf.mono hGbhQp
 replace hu:=hu.mono hGbhQp
 replace hoN:=hoN.mono hGbhQp
 replace hcI:=hcI.mono hGbhQp
 replace hT:=hT.mono hGbhQp
 replace huI:=huI.mono hGbhQp
 replace hQu:=hQu.mono hGbhQp
 replace hQp:Bs _ b3 _:=hQp
 obtain ⟨_,hGbhQ7,hQ7,hs⟩:=hs.fixBlk (fun k _=>Hv k)
 replace hf:=hf.mono hGbhQ7
 replace hu:=hu.mono hGbhQ7
 replace hoN:=hoN.mono hGbhQ7
 replace hcI:=hcI.mono hGbhQ7
 replace hT:=hT.mono hGbhQ7
 replace huI:=huI.mono hGbhQ7
 replace hQu:=hQu.mono hGbhQ7
 replace hQp:=hQp.mono hGbhQ7
 replace hQ7:Bs _ b7 _:=hQ7
 refine Wu 2 [] hs rfl<|O_s (Jy hs fun bm _ hs =>O_s (Sa hs zeroValue88 rfl fun b9 _ hs=>O_n (Sd hs rfl rfl fun _ hs=>Wp 4 [0] hs rfl<|Zy hs (Cy (vs:=[.slice Ap f.progs.length cp,.slice An f.nodes.length cn,.slice Ae f.edges.length ce,.slice Ar f.routes.length cr,.slice Au nv.length cu]) isAgg45 sizeOf45 rfl hQu.whole rfl<|Wp 1 [0] hs rfl<|Zy hs (Yg rfl (hQp 0 (.slice Ao o.length co) rfl)<|O_s (Sc (qB) hs rfl fun v4 G' H' _ hR hG33 hs=>?_))))))
 obtain ⟨rfl,bu,bo,rfl,hQ1,hQ2⟩:=hR
 replace hs:=hs.n rfl
 replace hf:=hf.mono hG33
 replace hu:=hu.mono hG33
 replace hoN:=hoN.mono hG33
 replace hcI:=hcI.mono hG33
 replace hT:=hT.mono hG33
 replace huI:=huI.mono hG33
 replace hQu:=hQu.mono hG33
 replace hQp:=hQp.mono hG33
 replace hQ7:=hQ7.mono hG33
 refine Wp 1 [0] hs rfl ?_
 have hs:=hs.f1
 have hV:=bG (o:=o) hf hu hk.g.z hk.c hk.n hk.v hQ1 hQ2 hoN oM (fun i hi=>gC i (hform.2.2.subset hi))
 refine Wu 1 [] hs rfl<|oG (fun n G' H'=>∃ ks,H'=[.obj bm (.map (esT eK ks) ks.length),.blk b9 88 [.map (some bm)]]∧ks.Nodup∧ks.length≤n * u.length∧∀ p,p∈ks↔gF f nv u o cl n p) (fun _ _ _=>False) hV (show St _ _ ([_,_]++[]) _ from hs) rfl func64 rfl kR ⟨[],rfl,List.nodup_nil,by simp,fun p=>⟨fun h=>eB,fun ⟨j,_,hj,_⟩=>absurd hj (Nat.not_lt_zero j)⟩⟩ (fun _ _ _ _ _ h=>h) (fun _ _ _ _ _ h=>h) ?round ?done ?early
 case round =>
  rintro lq D rec n x v G' H2 hp ha hbd hst hpe hAg hx hv hle ⟨ks,rfl,hnd,hkl,hks⟩
  obtain ⟨state,pending,fn',tmps,params,assign,body,defers⟩:=rec
  dsimp only at hp ha hbd hst hpe hAg
  subst hst hpe
  obtain ⟨ux,rfl,hxI⟩:=hv
  subst hp ha hbd
  replace hf:=hf.mono hle
  replace hu:=hu.mono hle
  replace hoN:=hoN.mono hle
  replace hcI:=hcI.mono hle
  replace hT:=hT.mono hle
  replace huI:=huI.mono hle
  replace hQu:=hQu.mono hle
  replace hQp:=hQp.mono hle
  replace hQ7:=hQ7.mono hle
  have hxm:=List.mem_of_getElem? hx
  obtain ⟨hxl,hxr⟩:=zH hk hxm
  obtain ⟨ks0,hks0⟩:∃ z,z=ks:=⟨_,rfl⟩
  rw [← hks0] at hks
  refine Dp.of_TX hAg rfl rfl sM rfl fun w1 hs =>Wt 2 [] hs rfl<|Cm ⟨hs,fun w2 hs=>?_⟩
  refine Wt 3 [] hs rfl<|Zy hs (Yg rfl (hQ7 0 (.slice Ae2 u.length ce2) rfl)<|Wp 3 [0] hs rfl ?_)
  have hs:=hs.f3.f3.f3.f3
  obtain ⟨Gp0,hGp⟩:=hs.name
  subst hGp
  have hf_0:=hf
  have hu_0:=hu
  have hoN_0:=hoN
  have hcI_0:=hcI
  have hT_0:=hT
  have huI_0:=huI
  have hQu_0:=hQu
  have hQp_0:=hQp
  have hQ7_0:=hQ7
  have hxI_0:=hxI
  refine Zl [2,3,9,10,35,36,37] (fun m E w=>∃ (k:Nat) (ks:List (Int×Int)) (G2:Ghost),k≤u.length∧ks.Nodup∧ks.length≤n*u.length+k∧(∀ p,p∈ks↔p∈ks0∨∃ e∈u.take k,e∉cl∧p=tF f x e)∧Tm Gp0 G2∧m=u.length-k∧E=⟨[],[(2,Vp b2),(3,Vp b3),(9,Vp b9),(10,ux),(35,.slice Ae2 u.length ce2),(36,Vi ((u.length:Nat):Int)),(37,Vi (k:Int))]⟩∧St _ G2 (_::_::[.obj bm (.map (esT eK ks) ks.length),.blk b9 88 [.map (some bm)]]) w) rfl (⟨0,ks,_,by omega,hnd,by omega,fun p=>by simp [hks0],Tm.refl _,rfl,rfl,hs⟩) fun m E w hI=>?_
  obtain ⟨k,ks,G2,hkl2,hnd,hkl,hks1,hlg0,rfl,rfl,hs⟩:=hI
  have hf:=hf_0.mono hlg0
  have hu:=hu_0.mono hlg0
  have hoN:=hoN_0.mono hlg0
  have hcI:=hcI_0.mono hlg0
  have hT:=hT_0.mono hlg0
  have huI:=huI_0.mono hlg0
  have hQu:=hQu_0.mono hlg0
  have hQp:=hQp_0.mono hlg0
  have hQ7:=hQ7_0.mono hlg0
  have hxI:=hxI_0.mono hlg0
  refine Wt 2 [] hs rfl<|Zy hs (Yc rfl (fun h38=>?_) fun h38=>?_)
  ·
   refine Wp 8 [0] hs rfl<|Zy hs (Dd huI k underlying33 sizeOf3 rfl rfl rfl oM fun p39 hp39 =>Zy hs (Yg rfl (hp39)<|Wp 5 [0,1] hs rfl<|Zy hs (Yg rfl (hQp 1 (.slice Ac cl.length cc) rfl)<|Wp 1 [] hs rfl<|O_s (Sc (Sp hcI oM) hs rfl fun v5 G' H' _ hR hG44 hs=>?_))))
   obtain ⟨rfl,rfl⟩:=hR
   replace hs:=hs.n rfl
   replace hf:=hf.mono hG44
   replace hQu:=hQu.mono hG44
   replace hxI:=hxI.mono hG44
   replace hlg0:=hlg0.mono hG44
   cases h44:cl.contains (u[k]'oM)
   ·
    refine Wp 2 [0] hs rfl ?_
    obtain ⟨i,a,b,hiE,hie,hab,haN,hbN,hed⟩:=zI hk hU (List.getElem_mem (show k<u.length by omega))
    have hpe:Value.agg #[Vi (x[a]'oM),Vi (x[b]'oM)]=eK (tF f x (u[k]'oM)):=by unfold tF;rw [hed];dsimp only;rw [La oM,La oM];rfl
    refine Wu 1 [] hs rfl<|Bb [0,1,2,3,4,5,6,7,8,9,10,11,12,13,14,15,16,17,18,19,20,21] hs kR ?_
    replace hs:=hs.drew
    refine Xr [0,1,2,3] [3,0,2] hs rfl<|Xt 4 hs rfl (Yg rfl (hQu 2 (.slice Ae f.edges.length ce) rfl)<|Xr [5] [] hs rfl<|Xt 6 hs rfl (Bp hf.e i underlying40 sizeOf70 rfl rfl hie hiE fun p52 c52 hp52 hc52 hR52=>?_))
    replace hR52:c52=[Vi f.edges[i].1,Vi f.edges[i].2]:=hR52
    subst hR52
    refine Xt 7 hs rfl (Eo 0 underlying70 sizeOf3 rfl rfl rfl dC<|Xt 8 hs rfl (Yg rfl (hp52 0 (Vi (a:Int)) (by rw [hab];rfl))<|Xt 9 hs rfl (Dd hxI a underlying33 sizeOf3 rfl rfl rfl oM fun p55 hp55 =>Xt 10 hs rfl (Yg rfl (hp55)<|Xr [11,12,13] [0,2] hs rfl<|Xt 14 hs rfl (Yg rfl (hQu 2 (.slice Ae f.edges.length ce) rfl)<|Xr [15] [] hs rfl<|Xt 16 hs rfl (Bp hf.e i underlying40 sizeOf70 rfl rfl hie hiE fun p62 c62 hp62 hc62 hR62=>?_))))))
    replace hR62:c62=[Vi f.edges[i].1,Vi f.edges[i].2]:=hR62
    subst hR62
    refine Xt 17 hs rfl (Eo 1 underlying70 sizeOf3 rfl rfl rfl dC<|Xt 18 hs rfl (Yg rfl (hp62 1 (Vi (b:Int)) (by rw [hab];rfl))<|Xt 19 hs rfl (Dd hxI b underlying33 sizeOf3 rfl rfl rfl oM fun p65 hp65 =>Xt 20 hs rfl (Yg rfl (hp65)<|Xt 21 hs rfl (Ct underlying70 sizeOf3 zeroValue70 rfl rfl (cs:=[_,_]) rfl ?_)))))
    rw [hpe]
    refine Xn 22 rfl (S_putT (a:=tF f x (u[k]'oM)) hs.f2 underlying88 keyU rfl rfl rfl fun _ hs =>Xe (Zk [2,3,9,10,35,36,37] rfl ?_))
    refine Zr<|Zy hs (Ya (s:=((k+1:Nat):Int)) rfl<|Wp 1 [] hs rfl ?_)
    have hs:=hs.f3.f1.f3.f3
    refine Zx [2,3,9,10,35,36,37] rfl ⟨k+1,Qn ks (tF f x (u[k]'oM)),_,by omega,lN hnd,by have:=zU (ks:=ks) (a:=tF f x (u[k]'oM));omega,fun p=>by rw [uM,hks1,qF oM];exact ⟨fun h=>h.elim (fun h=>h.elim .inl fun h=>.inr (.inl h)) fun h=>.inr (.inr ⟨by simpa using h44,h⟩),fun h=>h.elim (fun h=>.inl (.inl h)) fun h=>h.elim (fun h=>.inl (.inr h)) fun h=>.inr h.2⟩,hlg0,rfl,rfl,hs⟩
   refine Wp 5 [0] hs rfl<|Zy hs (Ya (s:=((k+1:Nat):Int)) rfl<|Wp 1 [] hs rfl ?_)
   have hs:=hs.f3.f3.f3.f3
   refine Zx [2,3,9,10,35,36,37] rfl ⟨k+1,ks,_,by omega,hnd,by omega,fun p=>by rw [hks1,qF oM];exact ⟨fun h=>h.elim .inl fun h=>.inr (.inl h),fun h=>h.elim .inl fun h=>h.elim .inr fun h=>absurd (by simpa using h44) h.1⟩,hlg0,rfl,rfl,hs⟩
  refine Wp 4 [0] hs rfl ?_
  have hs:=hs.f3.f3.f3.f3
  obtain rfl:k=u.length:=by omega
  refine ⟨_,_,hs,.inl ⟨rfl,_,rfl,⟨ks,rfl,hnd,by rw [Nat.succ_mul];omega,fun p=>?_⟩,Hq.cons (fun _ h=>h) (Hq.cons (fun _ h=>h) (Hq.refl _))⟩⟩
  rw [hks1,hks]
  exact zT hx
 case done =>
  rintro lq D o' G' H2 w' ⟨ks,rfl,hnd,hkl,hks⟩ hC hle hs
  replace hs:=hs.n rfl
  refine Wt 4 [0] hs rfl ?_
  have hs:=hs.f2
  obtain ⟨_,hGm,hm,hs⟩:=hs.fixMap (fun k _=>Hv k)
  replace hm:Vr _ bm ks:=hm
  refine Wu 3 [2] hs rfl<|O_s (Sc (mkey_ok) hs rfl fun v6 G' H' _ hR hG70 hs=>?_)
  obtain ⟨rfl,bk,rfl,hQk⟩:=hR
  replace hs:=hs.n rfl
  replace hm:=hm.mono hG70
  refine Wp 1 [] hs rfl<|O_s (Sc (srfn_ok hQk hm hnd oM) hs rfl fun v7 G' H' _ hR hG72 hs=>?_)
  obtain ⟨rfl,q,hpq,hsl,hEd⟩:=hR
  replace hs:=hs.n rfl
  refine Wp 3 [0] hs rfl<|Ah<|Hg (Ds:=[D]) (show St _ _ (Cb [D]++_) _ from hs) (vs:=[_,_]) results17 rfl (fun _ hs=>⟨⟨rfl,rfl,trivial⟩,?_⟩)
  try dsimp only [tup]
  exact ⟨_,[],hs.done,rfl,_,q,rfl,hEd,hsl,hpq.nodup_iff.2 hnd,fun p=>(hpq.mem_iff).trans (hks p)⟩
 case early =>
  intro _ _ _ _ _ _ _ h;exact h.elim
theorem zV {G:Ghost} {Ap An Ae Ar:Option Addr} {cp cn ce cr:Nat} {f:Cg} {Au:Option Addr} {cu:Nat} {nv:List Int} (hf:Ho G Ap An Ae Ar cp cn ce cr f) (hu:Bt G (.slice Au nv.length cu) nv) {Ao Ac:Option Addr} {co cc:Nat} {o:List Nat} {cl:List Int} {u:List Int} (hoN:Cc G (.slice Ao o.length co) o) (hcI:Bt G (.slice Ac cl.length cc) cl) (hU:Ja f u) (hol:o.length≤12) (hcl:cl.length≤1000) (hk:kE f nv) (hT:Tab G) (hform:¬ Ih f nv u o cl) :
  Ai prog 17 [.agg #[.slice Ap f.progs.length cp,.slice An f.nodes.length cn,.slice Ae f.edges.length ce,.slice Ar f.routes.length cr,.slice Au nv.length cu],.agg #[.slice Ao o.length co,.slice Ac cl.length cc]] G [] fun r _ H'=>H'=[]∧r=.tuple #[Vn,Vi 1]:=by
 refine Ai.of_TM [(0,_),(1,_)] func17 rfl ntmps17 sM rfl fun w0 hs=>?_
 have hf0:=hf
 have hu0:=hu
 have hoN0:=hoN
 have hcI0:=hcI
 have hT0:=hT
 refine Wt 2 [] hs rfl<|O_s (Sb hs rfl fun b2 _ hs=>O_s (Sb hs rfl fun b3 _ hs=>Wp 7 [0,1] hs rfl<|O_s (Sc (Ws hf hu hk hT) hs rfl fun v1 G' H' _ hR hG15 hs=>?_)))
 obtain ⟨rfl,rfl⟩:=hR
 replace hs:=hs.n rfl
 replace hf:=hf.mono hG15
 replace hu:=hu.mono hG15
 replace hoN:=hoN.mono hG15
 replace hcI:=hcI.mono hG15
 replace hT:=hT.mono hG15
 refine Wp 14 [0,0,1,0] hs rfl<|O_s (Sc (gE hf hu hoN hcI hU hol hcl hk hT) hs rfl fun v2 G' H' _ hR hG21 hs=>?_)
 obtain ⟨rfl,bf,rfl,hbf⟩:=hR
 replace hs:=hs.n rfl
 obtain rfl:bf=false:=by cases bf;rfl;exact absurd (hbf.1 rfl) hform
 refine Wp 8 [0,0] hs rfl<|Ah<|Hg (Ds:=[]) (show St _ _ (Cb []++_) _ from hs) (vs:=[_,_]) results17 rfl (fun _ hs=>⟨⟨rfl,rfl,trivial⟩,?_⟩)
 try dsimp only [tup]
 exact ⟨_,[],hs.done,rfl,rfl⟩
theorem nedd_ok {G:Ghost} {Ap An Ae Ar:Option Addr} {cp cn ce cr:Nat} {f:Cg} {Au:Option Addr} {cu:Nat} {nv:List Int} (hf:Ho G Ap An Ae Ar cp cn ce cr f) (hu:Bt G (.slice Au nv.length cu) nv) {Ao Ac:Option Addr} {co cc:Nat} {o:List Nat} {cl:List Int} {u:List Int} (hoN:Cc G (.slice Ao o.length co) o) (hcI:Bt G (.slice Ac cl.length cc) cl) (hU:Ja f u) (hol:o.length≤12) (hcl:cl.length≤1000) (hk:kE f nv) (hT:Tab G) (h12:(fY f nv o).length*u.length≤1000000) :
    Ai prog 17 [.agg #[.slice Ap f.progs.length cp,.slice An f.nodes.length cn,.slice Ae f.edges.length ce,.slice Ar f.routes.length cr,.slice Au nv.length cu],.agg #[.slice Ao o.length co,.slice Ac cl.length cc]] G [] fun r G' H'=>H'=[]∧∃ v q e,r=.tuple #[v,Vi e]∧kT G' v q∧(e=1↔¬ Ih f nv u o cl)∧(e=0↔Ih f nv u o cl)∧(Ih f nv u o cl→Srt kU q∧q.Nodup∧∀ p,p∈q↔gF f nv u o cl (fY f nv o).length p):=by
  by_cases hform:Ih f nv u o cl
  · exact (qG hf hu hoN hcI hU hol hcl hk hT hform h12).mono fun r G' H' _ ⟨h0,v,q,hr,hE,h1,h2,h3⟩=>⟨h0,v,q,0,hr,hE,⟨fun h=>absurd h dC,fun h=>absurd hform h⟩,⟨fun _=>hform,fun _=>rfl⟩,fun _=>⟨h1,h2,h3⟩⟩
  · exact (zV hf hu hoN hcI hU hol hcl hk hT hform).mono fun r G' H' _ ⟨h0,hr⟩=>⟨h0,_,[],1,hr,Be.nil,⟨fun _=>hform,fun _=>rfl⟩,⟨fun h=>absurd h dC,fun h=>absurd h hform⟩,fun h=>absurd h hform⟩
theorem ned_len {f:Cg} {nv u:List Int} {o:List Nat} (ho:o.length≤1000) (hu:u.length≤12):(fY f nv o).length*u.length≤1000000:=by
  unfold fY;rw [nC]
  have:=Nat.mul_le_mul (show o.length+1≤1001 by omega) hu
  omega
theorem ned_rng {f:Cg} {nv u:List Int} {o:List Nat} {cl:List Int} {n:Nat} {p:Int×Int} (hU:kE f nv) (hu:Ja f u) (h:gF f nv u o cl n p):(0≤p.1∧p.1<f.progs.length)∧0≤p.2∧p.2<f.progs.length:=by
  obtain ⟨j,x,_,hx,e,he,_,rfl⟩:=h
  obtain ⟨i,a,b,hiE,hie,hab,haN,hbN,hed⟩:=zI hU hu he
  obtain ⟨hxl,hxr⟩:=zH hU (List.mem_of_getElem? hx)
  unfold tF;rw [hed];dsimp only;rw [La oM,La oM]
  exact ⟨hxr _ (List.getElem_mem _),hxr _ (List.getElem_mem _)⟩
theorem zW {f:Cg} {nv u:List Int} {s:List (List Bool)} {o:List Nat} {cl:List Int}:(∀ x∈Kr f nv s u o,x∈cl)↔∀ p,gF f nv u o cl (fY f nv o).length p→My s p.1 p.2=true:=by
  unfold Kr;rw [cl_iff]
  constructor
  · rintro h p ⟨j,x,_,hx,e,he,hc,rfl⟩
    exact h x (List.mem_of_getElem? hx) e he hc
  · intro h x hx e he hc
    obtain ⟨j,hj,rfl⟩:=List.getElem_of_mem hx
    exact h (tF f _ e) ⟨j,_,hj,List.getElem?_eq_getElem hj,e,he,hc,rfl⟩
theorem srt_lt {q:List (Int×Int)} (h:Srt kU q) (hn:q.Nodup) {i:Nat} (h0:0<i) (hi:i<q.length):kU (q[i-1]'oM) q[i]=true:=by
  have h1:=List.pairwise_iff_getElem.1 h (i-1) i oM hi oM
  have h2:=List.pairwise_iff_getElem.1 hn (i-1) i oM hi oM
  rw [aR] at h1;rw [Kx]
  rcases Int.lt_trichotomy (q[i-1]'oM).1 (q[i]).1 with h | h | h
  · exact .inl h
  · rcases Int.lt_trichotomy (q[i-1]'oM).2 (q[i]).2 with h' | h' | h'
    · exact .inr ⟨h,h'⟩
    · exact absurd (Prod.ext h h') h2
    · omega
  · omega
theorem lst_len {α:Type} {k:Nat} {R:Ghost→List Value→α→Prop} {G:Ghost} {v:Value} {l:List α} (h:Be k R G v l):l.length≤9223372036854775807:=by
  obtain ⟨_,⟨_,c,_,_,h1,h2,_⟩,_⟩:=h
  exact Nat.le_trans h1 h2
theorem rupg_ok {G:Ghost} {Ap An Ae Ar:Option Addr} {cp cn ce cr:Nat} {f:Cg} {Au:Option Addr} {cu:Nat} {nv:List Int} (hf:Ho G Ap An Ae Ar cp cn ce cr f) (hu:Bt G (.slice Au nv.length cu) nv) (hz:sU f) (hn:nv.length=f.nodes.length) :
  Ai prog 23 [.agg #[.slice Ap f.progs.length cp,.slice An f.nodes.length cn,.slice Ae f.edges.length ce,.slice Ar f.routes.length cr,.slice Au nv.length cu]] G [] fun r G' H'=>H'=[]∧Cc G' r (Ip f nv):=by
 have hnz:=hz.n
 refine Ai.of_T [(0,_)] func23 rfl ntmps23 sM rfl fun w0 hs=>?_
 have hf0:=hf
 have hu0:=hu
 refine Wt 2 [] hs rfl<|O_s (Sb hs rfl fun b1 _ hs=>Wp 4 [0] hs rfl<|O_s (Bw hs underlying33 sizeOf3 zeroValue3 rfl rfl dC dC rfl (cs:=[]) rfl rfl fun v1 _ hs shl=>?_))
 obtain ⟨bl5,rfl⟩:=shl
 refine Wp 7 [0,0] hs rfl ?_
 have hs:=hs.f1.f1
 refine Zl [1,3,4] (fun m E w=>∃ (k:Nat) (v3:Value) (G2:Ghost),k≤f.nodes.length∧m=f.nodes.length-k∧E=⟨[],[(1,Vp b1),(3,v3),(4,Vi (k:Int))]⟩∧St ⟨w0,G,Bl []⟩ G2 [.row 3 1 v3 ((List.range k).filter (gJ f nv)).length (((List.range k).filter (gJ f nv)).map Co),.blk b1 45 [.slice Ap f.progs.length cp,.slice An f.nodes.length cn,.slice Ae f.edges.length ce,.slice Ar f.routes.length cr,.slice Au nv.length cu]] w) rfl (⟨0,_,_,by omega,rfl,rfl,hs⟩) fun m E w hI=>?_
 obtain ⟨k,v3,G2,hk,rfl,rfl,hs⟩:=hI
 have hf:=hf0.mono hs.le
 have hu:=hu0.mono hs.le
 refine Wt 8 [0,1,1] hs rfl<|Zy hs (Yc rfl (fun h11=>?_) fun h11=>?_)
 ·
  refine Wp 3 [0] hs rfl ?_
  have hkl:((List.range k).filter (gJ f nv)).length≤k:=by have:=List.length_filter_le (gJ f nv) (List.range k);simpa using this
  refine Wu 3 [] hs rfl<|Bb [0,1,2,3,4,5,6,7,8,9,10,11,12] hs kR ?_
  replace hs:=hs.drew
  refine Xr [0,1,2] [4,1] hs rfl<|Xt 3 hs rfl (Dd hu k underlying33 sizeOf3 rfl rfl rfl oM fun p17 hp17 =>Xt 4 hs rfl (Yg rfl (hp17)<|Xr [5,6,7,8] [0,1,1] hs rfl<|Xt 9 hs rfl (Bp hf.n (k) underlying39 sizeOf76 rfl rfl rfl oM fun p23 c23 hp23 hc23 hR23=>?_)))
  obtain ⟨u23,rfl,hv23⟩:=hR23
  obtain ⟨Av23,cv23,rfl,_⟩:=id hv23
  refine Xt 10 hs rfl (Jr O76_1.p rfl<|Xt 11 hs rfl (Yg rfl (hp23 1 _ rfl)<|Xt 12 hs rfl (Jd rfl rfl rfl (fun h26=>?_) (fun h26=>?_))))
  ·
   dsimp only [Gq] at h26
   refine Xe (Zk [1,3,4,26] rfl<|Wu 4 [] hs rfl<|O_s (Bw hs underlying33 sizeOf3 zeroValue3 rfl rfl dC dC rfl (cs:=[_]) rfl rfl fun v2 _ hs _=>?_))
   obtain ⟨_,hG29,hl29,hs⟩:=hs.fixRow noM
   refine O_s (Bf hs underlying33 Ko rfl dC rfl rfl (hl29) (Fh rfl) oM oM fun v3 _ hs =>Wp 4 [0] hs rfl<|Zy hs (Ya (s:=((k+1:Nat):Int)) rfl<|Wp 1 [] hs rfl ?_))
   have hs:=hs.f1.f1
   have hq:=fX (nv:=nv) (show k<f.nodes.length by omega) hn
   refine Zx [1,3,4] rfl ⟨k+1,_,_,by omega,rfl,rfl,Bz hs (by rw [Mc,hq];simp [h26])⟩
  dsimp only [Gq] at h26
  refine Xe (Zk [1,3,4,26] rfl<|Wu 4 [] hs rfl<|Zy hs (Ya (s:=((k+1:Nat):Int)) rfl<|Wp 1 [] hs rfl ?_))
  have hs:=hs.f1.f1
  have hq:=fX (nv:=nv) (show k<f.nodes.length by omega) hn
  refine Zx [1,3,4] rfl ⟨k+1,_,_,by omega,rfl,rfl,Bz hs (by rw [Mc,hq];simp [h26])⟩
 refine Wp 3 [0] hs rfl<|Wu 5 [0] hs rfl<|Ah ?_
 obtain rfl:k=f.nodes.length:=by omega
 obtain ⟨_,hG_hfr,hfr,hs⟩:=hs.fixRow noM
 refine Zz results23 rfl ?_
 exact ⟨_,[],hs.done,rfl,by simpa [Cc,Ip] using hfr⟩
theorem kK {G:Ghost} {Aa Ab:Option Addr} {ca cb:Nat} {a b:List Int} (ha:Bt G (.slice Aa a.length ca) a) (hb:Bt G (.slice Ab b.length cb) b) (hal:a.length≤1000) :
  Ai prog 25 [.slice Aa a.length ca,.slice Ab b.length cb] G [] fun r _ H'=>H'=[]∧r=.bool (decide (a=b)):=by
 refine Ai.of_T [(0,_),(1,_)] func25 rfl ntmps25 sM rfl fun w0 hs=>?_
 have ha0:=ha
 have hb0:=hb
 refine Wt 11 [0] hs rfl<|Zy hs (Yc rfl (fun h10=>?_) fun h10=>?_)
 ·
  refine Wp 6 [0,0] hs rfl<|Ah<|Zz results25 rfl ?_
  exact ⟨_,[],hs.done,rfl,congrArg Value.bool (decide_eq_false fun e=>h10 (by rw [e])).symm⟩
 refine Wp 8 [0,0] hs rfl<|Zl [0,1,5] (fun m E w=>∃ (k:Nat) (G2:Ghost),k≤a.length∧(∀ j (h1:j<a.length) (h2:j<b.length),j<k→a[j]=b[j])∧m=a.length - k∧E=⟨[],[(0,.slice Aa a.length ca),(1,.slice Ab b.length cb),(5,Vi (k:Int))]⟩∧St ⟨w0,G,Bl []⟩ G2 [] w) rfl (⟨0,_,by omega,fun _ _ _ h=>absurd h (Nat.not_lt_zero _),rfl,rfl,hs⟩) fun m E w hI=>?_
 obtain ⟨k,G2,hk,hke,rfl,rfl,hs⟩:=hI
 have ha:=ha0.mono hs.le
 have hb:=hb0.mono hs.le
 refine Wt 6 [] hs rfl<|Zy hs (Yc rfl (fun h14=>?_) fun h14=>?_)
 ·
  refine Wp 6 [0] hs rfl<|Bb [0,1,2,3,4,5,6,7,8] hs kR ?_
  replace hs:=hs.drew
  refine Xr [0,1] [] hs rfl<|Xt 2 hs rfl (Dd ha k underlying33 sizeOf3 rfl rfl rfl oM fun p19 hp19 =>Xt 3 hs rfl (Yg rfl (hp19)<|Xr [4,5] [] hs rfl<|Xt 6 hs rfl (Dd hb k underlying33 sizeOf3 rfl rfl rfl oM fun p23 hp23 =>Xt 7 hs rfl (Yg rfl (hp23)<|Xt 8 hs rfl (Jd rfl rfl rfl (fun h25=>?_) (fun h25=>?_))))))
  ·
   dsimp only [Gq] at h25
   refine Xe (Zk [0,1,5,25] rfl<|Wu 5 [0] hs rfl<|Ah<|Zz results25 rfl ?_)
   exact ⟨_,[],hs.done,rfl,congrArg Value.bool (decide_eq_false (zQ (k:=k) oM oM (fun e=>h25 (by rw [e])))).symm⟩
  dsimp only [Gq] at h25
  have hEQ:a[k]'oM=b[k]'oM:=by omega
  refine Xe (Zk [0,1,5,25] rfl<|Wu 4 [] hs rfl<|Zy hs (Ya (s:=((k+1:Nat):Int)) rfl<|Wp 1 [] hs rfl<|Zx [0,1,5] rfl ⟨k+1,_,by omega,fun j h1 h2 hj=>(Nat.lt_or_ge j k).elim (hke j h1 h2) (fun h=>by obtain rfl:j=k:=oM;exact hEQ),rfl,rfl,hs⟩))
 refine Wp 3 [0] hs rfl<|Wu 4 [0] hs rfl<|Ah<|Zz results25 rfl ?_
 exact ⟨_,[],hs.done,rfl,congrArg Value.bool (decide_eq_true (Rc oM fun j h1 h2=>hke j h1 h2 oM)).symm⟩
theorem zX {G:Ghost} {Aa Ab:Option Addr} {ca cb:Nat} {a b:List (Int×Int)} (ha:kT G (.slice Aa a.length ca) a) (hb:kT G (.slice Ab b.length cb) b) (hal:a.length≤1000) :
  Ai prog 19 [.slice Aa a.length ca,.slice Ab b.length cb] G [] fun r _ H'=>H'=[]∧r=.bool (decide (a=b)):=by
 refine Ai.of_T [(0,_),(1,_)] func19 rfl ntmps19 sM rfl fun w0 hs=>?_
 have ha0:=ha
 have hb0:=hb
 refine Wt 11 [0] hs rfl<|Zy hs (Yc rfl (fun h10=>?_) fun h10=>?_)
 ·
  refine Wp 6 [0,0] hs rfl<|Ah<|Zz results19 rfl ?_
  exact ⟨_,[],hs.done,rfl,congrArg Value.bool (decide_eq_false fun e=>h10 (by rw [e])).symm⟩
 refine Wp 8 [0,0] hs rfl<|Zl [0,1,5] (fun m E w=>∃ (k:Nat) (G2:Ghost),k≤a.length∧(∀ j (h1:j<a.length) (h2:j<b.length),j<k→a[j]=b[j])∧m=a.length - k∧E=⟨[],[(0,.slice Aa a.length ca),(1,.slice Ab b.length cb),(5,Vi (k:Int))]⟩∧St ⟨w0,G,Bl []⟩ G2 [] w) rfl (⟨0,_,by omega,fun _ _ _ h=>absurd h (Nat.not_lt_zero _),rfl,rfl,hs⟩) fun m E w hI=>?_
 obtain ⟨k,G2,hk,hke,rfl,rfl,hs⟩:=hI
 have ha:=ha0.mono hs.le
 have hb:=hb0.mono hs.le
 refine Wt 6 [] hs rfl<|Zy hs (Yc rfl (fun h14=>?_) fun h14=>?_)
 ·
  refine Wp 6 [0] hs rfl<|Bb [0,1,2,3,4,5,6,7,8] hs kR ?_
  replace hs:=hs.drew
  refine Xr [0,1] [] hs rfl ?_
  have hka:k<a.length:=by omega
  have hkb:k<b.length:=by omega
  refine Xt 2 hs rfl (Bp ha k underlying40 sizeOf70 rfl rfl rfl oM fun p19 c19 hp19 hc19 hR19=>?_)
  replace hR19:c19=[Vi (a[k]'hka).1,Vi (a[k]'hka).2]:=hR19
  subst hR19
  refine Xt 3 hs rfl (Cy (vs:=[Vi (a[k]'hka).1,Vi (a[k]'hka).2]) isAgg70 sizeOf70 rfl hp19 rfl<|Xr [4,5] [] hs rfl<|Xt 6 hs rfl (Bp hb k underlying40 sizeOf70 rfl rfl rfl oM fun p23 c23 hp23 hc23 hR23=>?_))
  replace hR23:c23=[Vi (b[k]'hkb).1,Vi (b[k]'hkb).2]:=hR23
  subst hR23
  refine Xt 7 hs rfl (Cy (vs:=[Vi (b[k]'hkb).1,Vi (b[k]'hkb).2]) isAgg70 sizeOf70 rfl hp23 rfl<|Xt 8 hs rfl (qU (a:=[(a[k]'hka).1,(a[k]'hka).2]) (b:=[(b[k]'hkb).1,(b[k]'hkb).2]) underlying70 sizeOf3 isAgg3 underlying3 kR rfl rfl rfl rfl (fun h25=>?_) (fun h25=>?_)))
  ·
   refine Xe (Zk [0,1,5,25] rfl<|Wu 5 [0] hs rfl<|Ah<|Zz results19 rfl ?_)
   exact ⟨_,[],hs.done,rfl,congrArg Value.bool (decide_eq_false (zQ (k:=k) oM oM (fun e=>h25 (by rw [e])))).symm⟩
  refine Xe (Zk [0,1,5,25] rfl<|Wu 4 [] hs rfl<|Zy hs (Ya (s:=((k+1:Nat):Int)) rfl<|Wp 1 [] hs rfl ?_))
  have hEQ:a[k]'oM=b[k]'oM:=by injection h25 with h1 h2;injection h2 with h2;exact Prod.ext h1 h2
  refine Zx [0,1,5] rfl ⟨k+1,_,by omega,fun j h1 h2 hj=>(Nat.lt_or_ge j k).elim (hke j h1 h2) (fun h=>by obtain rfl:j=k:=oM;exact hEQ),rfl,rfl,hs⟩
 refine Wp 3 [0] hs rfl<|Wu 4 [0] hs rfl<|Ah<|Zz results19 rfl ?_
 exact ⟨_,[],hs.done,rfl,congrArg Value.bool (decide_eq_true (Rc oM fun j h1 h2=>hke j h1 h2 oM)).symm⟩
theorem rsam_ok {G:Ghost} {Ao1 Ac1 Ao2 Ac2:Option Addr} {co1 cc1 co2 cc2:Nat} {o1 c1 o2 c2:List Int} (h1:Bt G (.slice Ao1 o1.length co1) o1) (h2:Bt G (.slice Ac1 c1.length cc1) c1) (h3:Bt G (.slice Ao2 o2.length co2) o2) (h4:Bt G (.slice Ac2 c2.length cc2) c2) (hl1:o1.length≤1000) (hl2:c1.length≤1000) :
  Ai prog 20 [.agg #[.slice Ao1 o1.length co1,.slice Ac1 c1.length cc1],.agg #[.slice Ao2 o2.length co2,.slice Ac2 c2.length cc2]] G [] fun r _ H'=>H'=[]∧r=.bool (decide (o1=o2) && decide (c1=c2)):=by
 refine Ai.of_T [(0,_),(1,_)] func20 rfl ntmps20 sM rfl fun w0 hs=>?_
 have h10:=h1
 have h20:=h2
 have h30:=h3
 have h40:=h4
 refine Wt 2 [] hs rfl<|O_s (Sb hs rfl fun b2 _ hs=>O_s (Sb hs rfl fun b3 _ hs=>Wp 8 [0,0,1,0,0] hs rfl<|O_s (Sc (kK h1 h3 hl1) hs rfl fun v1 G' H' _ hR hG9 hs=>?_)))
 obtain ⟨rfl,rfl⟩:=hR
 replace hs:=hs.n rfl
 replace h2:=h2.mono hG9
 replace h4:=h4.mono hG9
 cases h9:decide (o1=o2)
 ·
  refine Wp 9 [0] hs rfl<|Ah<|Zz results20 rfl ?_
  exact ⟨_,[],hs.done,rfl,by simp [*]⟩
 refine Wp 5 [1,1,1,0] hs rfl<|Cl 10 rfl rfl (Sc (kK h2 h4 hl2) hs rfl fun v2 G' H' _ hR hG15 hs=>?_)
 obtain ⟨rfl,rfl⟩:=hR
 replace hs:=hs.n rfl
 cases h15:decide (c1=c2)
 ·
  refine Wp 3 [0] hs rfl<|Ah<|Zz results20 rfl ?_
  exact ⟨_,[],hs.done,rfl,by simp [*]⟩
 refine Wp 3 [0] hs rfl<|Ah<|Zz results20 rfl ?_
 exact ⟨_,[],hs.done,rfl,by simp [*]⟩
theorem gG:∀ (f:Nat) (p l:List Nat),Gk f p l=(Gk f [] l).map fun q=>p++q
  | 0,p,l=>by rw [Gk,Gk];simp
  | f+1,p,l=>by
    rw [Gk,Gk]
    split
    · simp
    · rw [List.map_flatMap]
      congr 1;funext i
      rw [gG f (p++[l.getD i 0]),gG f ([]++[l.getD i 0]),List.map_map]
      congr 1;funext q;simp
def nG (f:Nat) (l:List Nat) (i:Nat):List (List Nat):=(Gk f [] (l.eraseIdx i)).map fun q=>[l.getD i 0]++q
theorem zY {f:Nat} {l:List Nat} (h:¬ l=[]):Gk (f+1) [] l=(List.range l.length).flatMap (nG f l):=by
  rw [Tl h];congr 1;funext i;exact gG f _ _
def fac:Nat→Nat
  | 0=>1
  | n+1=>(n+1)*fac n
theorem Ww {α:Type} (g:Nat→List α) (c:Nat):∀ n,(∀ i,i<n→(g i).length≤c)→((List.range n).flatMap g).length≤n*c
  | 0,_=>by simp
  | n+1,h=>by rw [Pl.flat_len,Nat.succ_mul];have:=Ww g c n (fun i hi=>h i oM);have:=h n oM;omega
theorem zZ:∀ (f:Nat) (p l:List Nat),l.length=f→(Gk f p l).length≤fac f
  | 0,p,l,_=>Nat.le_refl _
  | f+1,p,l,hl=>by
    have hne:¬ l=[]:=fun e=>by rw [e] at hl;cases hl
    rw [Tl hne]
    refine Nat.le_trans (Ww _ (fac f) _ fun i hi=>zZ f _ _ Z29) ?_
    rw [hl];exact Nat.le_refl _
theorem fac_le:∀ f,f<7→fac f≤720:=by decide
theorem gH {f:Nat} {p l:List Nat} (h:l.length=f) (h6:f≤6):(Gk f p l).length≤720:=Nat.le_trans (zZ f p l h) (fac_le f oM)
theorem ord_size {f:Nat} {l o:List Nat} (h:l.length=f) (ho:o∈Gk f [] l):o.length=f:=by
  obtain ⟨q,e,hq⟩:=bD f [] l o h ho
  rw [e,List.length_append,hq.length_eq,h];exact Nat.zero_add _
theorem qH {f:Nat} {l:List Nat} (h:l.length=f+1) (h6:f≤6) (i:Nat) (hi:i<l.length):(nG f l i).length≤720:=by
  unfold nG;rw [List.length_map];exact gH Z29 h6
theorem tG {l:List Nat} {i:Nat}:((l.map fun x:Nat=>(x:Int)).drop 0).take (i-0)++((l.map fun x:Nat=>(x:Int)).drop (i+1)).take (l.length-(i+1))=(l.eraseIdx i).map fun x:Nat=>(x:Int):=by
  have:=bH (l:=l) (i:=i)
  simpa using this
def RordV (f:Nat):Prop:=∀ (G:Ghost) (A:Option Addr) (c:Nat) (l:List Nat),l.length=f→f≤6→Cc G (.slice A l.length c) l→Ai prog 33 [.slice A l.length c] G [] fun r G' H'=>H'=[]∧LN G' r (Gk f [] l)
theorem rord_ok {G:Ghost} {fu:Nat} {A:Option Addr} {c:Nat} {l:List Nat} (hfl:l.length=fu) (hf6:fu≤6) (hI:∀ f',fu=f'+1→RordV f') (hl:Cc G (.slice A l.length c) l) :
  Ai prog 33 [.slice A l.length c] G [] fun r G' H'=>H'=[]∧LN G' r (Gk fu [] l):=by
 refine Ai.of_T [(0,_)] func33 rfl ntmps33 sM rfl fun w0 hs=>?_
 have hl0:=hl
 refine Wt 9 [0] hs rfl<|Zy hs (Yc rfl (fun h11=>?_) fun h11=>?_)
 ·
  have hnil:l=[]:=List.eq_nil_of_length_eq_zero oM
  refine Wp 4 [0] hs rfl<|O_s (Bw hs underlying33 sizeOf3 zeroValue3 rfl rfl dC dC rfl (cs:=[]) rfl rfl fun v1 _ hs _=>?_)
  have hsN:=hs.fixRow noM
  clear hs
  obtain ⟨_,hG12,hl12,hs⟩:=hsN
  obtain ⟨A12,c12,rfl,_⟩:=id hl12
  refine O_s (Bw hs underlying41 sizeOf33 zeroValue33 rfl rfl dC dC rfl (cs:=[_]) rfl rfl fun v2 _ hs _=>?_)
  have hsN:=hs.fixRow noM
  clear hs
  obtain ⟨_,hG13,hl13,hs⟩:=hsN
  replace hl12:=hl12.mono hG13
  obtain ⟨A13,c13,rfl,_⟩:=id hl13
  refine Wp 2 [0] hs rfl<|Ah<|Zz results33 rfl ?_
  subst hnil
  exact ⟨_,[],hs.done,rfl,by rw [gA rfl];exact Ej.fin hl13 rfl ⟨(Cc.ofSl hl12 rfl rfl:Cc _ _ []),trivial⟩⟩
 have hne:¬ l=[]:=fun h=>h11 (by rw [h];rfl)
 obtain ⟨f',rfl⟩:∃ f',fu=f'+1:=⟨fu-1,by omega⟩
 replace hI:=hI f' rfl
 refine Wp 5 [0] hs rfl<|O_s (Bw hs underlying41 sizeOf33 zeroValue33 rfl rfl dC dC rfl (cs:=[]) rfl rfl fun v3 _ hs shl=>?_)
 obtain ⟨bl14,rfl⟩:=shl
 refine Wp 7 [0,0] hs rfl<|Zl [0,3,4] (fun m E w=>∃ (i:Nat) (v3:Value) (us:List Value) (G2:Ghost),i≤l.length∧Ej G2 us ((List.range i).flatMap (nG f' l))∧m=l.length-i∧E=⟨[],[(0,.slice A l.length c),(3,v3),(4,Vi (i:Int))]⟩∧St ⟨w0,G,Bl []⟩ G2 [.row 33 1 v3 us.length us] w) rfl (⟨0,_,[],_,by omega,trivial,rfl,rfl,hs⟩) fun m E w hI=>?_
 obtain ⟨i,v3,us,G2,hi,hL,rfl,rfl,hs⟩:=hI
 have hl:=hl0.mono hs.le
 have husl:us.length≤i*720:=by rw [hL.len];exact Ww _ _ _ fun j hj=>qH oM oM j oM
 refine Wt 6 [] hs rfl<|Zy hs (Yc rfl (fun h18=>?_) fun h18=>?_)
 ·
  refine Wp 7 [0] hs rfl<|O_s (Bw hs underlying33 sizeOf3 zeroValue3 rfl rfl dC dC rfl (cs:=[]) rfl rfl fun v4 _ hs shl=>?_)
  obtain ⟨bl21,rfl⟩:=shl
  refine Wp 2 [] hs rfl<|Zy hs (Kd (Qf hl) 0 i underlying33 sizeOf3 rfl rfl ⟨_,_,rfl,rfl⟩ oM Lk fun s24 hs24=>?_)
  obtain ⟨A24,c24,rfl,_⟩:=id hs24
  refine O_s (Bf hs underlying33 Ko rfl dC rfl rfl (hs24) (Rm) Lk Lk fun v5 _ hs =>Wp 7 [0] hs rfl<|Zy hs (Ya (s:=((i+1):Int)) rfl<|Zy hs (Kd (Qf hl) (i+1) l.length underlying33 sizeOf3 rfl ⟨_,_,rfl,rfl⟩ (by simp [bnd]) oM sM fun s30 hs30=>?_)))
  obtain ⟨A30,c30,rfl,_⟩:=id hs30
  refine O_s (Bf hs underlying33 Ko rfl dC rfl rfl (hs30) (Rm) Lk Lk fun v6 _ hs =>Wp 2 [0] hs rfl ?_)
  have hsN:=hs.fixRow noM
  clear hs
  obtain ⟨_,hG_her,her,hs⟩:=hsN
  replace hl:=hl.mono hG_her
  replace hL:=hL.mono hG_her
  have hen:Cc _ _ (l.eraseIdx i):=intsN (Pp her (by simp [List.length_eraseIdx_of_lt (show i<l.length by omega)];omega) (by rw [List.nil_append,← List.map_append,tG]))
  clear her
  obtain ⟨A5,c5,rfl,_⟩:=id hen
  refine Wu 3 [] hs rfl<|O_s (Sc (hI _ _ _ _ Z30 oM hen) hs rfl fun v7 G' H' _ hR hG33 hs=>?_)
  obtain ⟨rfl,hB⟩:=hR
  replace hs:=hs.n rfl
  replace hl:=hl.mono hG33
  replace hL:=hL.mono hG33
  obtain ⟨B,hBe⟩:∃ B,B=(Gk f' [] (l.eraseIdx i)):=⟨_,rfl⟩
  rw [← hBe] at hB
  obtain ⟨A33,c33,rfl⟩:=Be.slice hB
  have hB720:B.length≤720:=by rw [hBe];exact gH Z30 oM
  refine Wp 6 [0,0] hs rfl ?_
  obtain ⟨Gp1,hGp⟩:=hs.name
  subst hGp
  have hB_1:=hB
  refine Zl [0,3,4,6,7] (fun m E w=>∃ (k:Nat) (v3:Value) (us:List Value) (G2:Ghost),k≤B.length∧Ej G2 us (((List.range i).flatMap (nG f' l))++(B.take k).map fun q=>[l.getD i 0]++q)∧Tm Gp1 G2∧m=B.length-k∧E=⟨[],[(0,.slice A l.length c),(3,v3),(4,Vi (i:Int)),(6,.slice A33 B.length c33),(7,Vi (k:Int))]⟩∧St ⟨w0,G,Bl []⟩ G2 [.row 33 1 v3 us.length us] w) rfl (⟨0,v3,us,_,by omega,by simpa using hL,Tm.refl _,rfl,rfl,hs⟩) fun m E w hI=>?_
  obtain ⟨k,v3,us,G2,hk,hL,hlg1,rfl,rfl,hs⟩:=hI
  have hB:=hB_1.mono hlg1
  have hl:=hl0.mono hs.le
  have husk:us.length≤i*720+k:=by rw [hL.len,List.length_append,List.length_map,List.length_take];have:=Ww (nG f' l) 720 i (fun j hj=>qH oM oM j oM);omega
  refine Wt 6 [] hs rfl<|Zy hs (Yc rfl (fun h37=>?_) fun h37=>?_)
  ·
   refine Wp 3 [0] hs rfl ?_
   have hbk:(B[k]'oM).length≤6:=by have:=ord_size (f:=f') (l:=l.eraseIdx i) (o:=B[k]'oM) Z30 (by rw [← hBe];exact List.getElem_mem _);omega
   refine Wu 3 [] hs rfl<|Bb [0,1,2,3,4,5,6,7,8] hs kR ?_
   replace hs:=hs.drew
   refine Xr [0,1] [] hs rfl<|Xt 2 hs rfl (Eu hl i underlying33 sizeOf3 rfl rfl rfl oM fun p42 hp42=>?_)
   rw [show l[i]'oM=l.getD i 0 from by rw [List.getD_eq_getElem?_getD,List.getElem?_eq_getElem oM];rfl] at hp42
   refine Xt 3 hs rfl (Yg rfl (hp42)<|Xr [5,6] [] hs rfl<|Xt 7 hs rfl (Bp hB k underlying41 sizeOf33 rfl rfl rfl oM fun p47 c47 hp47 hc47 hR47=>?_))
   obtain ⟨u47,rfl,hv47⟩:=hR47
   obtain ⟨Av47,cv47,rfl,_⟩:=id hv47
   refine Xt 8 hs rfl (Yg rfl (hp47 0 _ rfl) ?_)
   have hle:=hs.le
   refine Xo 4 rfl (Bw hs underlying33 sizeOf3 zeroValue3 rfl rfl dC dC rfl (cs:=[_]) rfl rfl fun v8 _ hs shl=>?_)
   obtain ⟨bl44,rfl⟩:=shl
   refine Am hs hle (Cj _) (List.sublist_cons_self _ _)<|Xa 9 rfl (Bf hs underlying33 Ko rfl dC rfl rfl (hv47) ((Oj _)) (by have:=hbk;omega) (by have:=hbk;simp;omega) fun v9 _ hs =>Xa 10 rfl (S_y hs rfl (Yq rfl<|Xe (Zk [0,3,4,6,7,8] rfl ?_))))
   have hsN:=hs.fixRow noM
   clear hs
   obtain ⟨_,hG_hyr,hyr,hs⟩:=hsN
   replace hL:=hL.mono hG_hyr
   replace hlg1:=hlg1.mono hG_hyr
   have hy:Cc _ _ ([l.getD i 0]++B[k]'oM):=Cc.ofSl hyr Lk sM
   clear hyr
   obtain ⟨A8,c8,rfl,_⟩:=id hy
   refine Wu 3 [] hs rfl<|O_s (Bw hs underlying41 sizeOf33 zeroValue33 rfl rfl dC dC rfl (cs:=[_]) rfl rfl fun v10 _ hs _=>?_)
   obtain ⟨_,hG52,hl52,hs⟩:=hs.fixRow noM
   replace hL:=hL.mono hG52
   replace hlg1:=hlg1.mono hG52
   replace hy:=hy.mono hG52
   refine O_s (Bf hs underlying41 bY rfl dC rfl rfl (hl52) (Fh rfl) oM oM fun v11 _ hs =>Wp 4 [0] hs rfl<|Zy hs (Ya (s:=((k+1:Nat):Int)) rfl<|Wp 1 [] hs rfl<|Zx [0,3,4,6,7] rfl ⟨k+1,_,us++[_],_,by omega,by rw [Ed oM,List.map_append,← List.append_assoc];exact hL.snoc hy,hlg1,rfl,rfl,Bz hs sM⟩))
  refine Wp 3 [0] hs rfl<|Wu 2 [] hs rfl<|Zy hs (Ya (s:=((i+1:Nat):Int)) rfl<|Wp 1 [] hs rfl ?_)
  obtain rfl:k=B.length:=by omega
  rw [List.take_length,hBe] at hL
  refine Zx [0,3,4] rfl ⟨i+1,_,_,_,by omega,by rw [List.range_succ,List.flatMap_append];simpa [nG] using hL,rfl,rfl,hs⟩
 refine Wp 3 [0] hs rfl<|Wu 5 [0] hs rfl<|Ah ?_
 obtain rfl:i=l.length:=by omega
 obtain ⟨_,hG_hfr,hfr,hs⟩:=hs.fixRow noM
 replace hL:=hL.mono hG_hfr
 refine Zz results33 rfl ?_
 exact ⟨_,[],hs.done,rfl,by rw [zY hne];exact Ej.fin hfr hL.len hL⟩
theorem rordV:∀ n,RordV n
  | n,G,A,c,l,hl,h6,hN=>rord_ok hl h6 (fun f' h=>rordV f') hN
termination_by n=>n
decreasing_by omega
theorem PL45:places prog 45=some [(0,4),(4,1)]:=by kernel_rfl
theorem TI64:TI prog 64 (Vn) 1 24:=TI.of kR
def Lj (f:Cg) (nw:List UInt8):Nat→List Int×Nat
  | 0=>([],0)
  | i+1=>((Lj f nw i).1++[nvV f nw (Lj f nw i).2 i],if nvV f nw (Lj f nw i).2 i=((f.nodes[i]?).map (·.runs)).getD 0 then (Lj f nw i).2 else (Lj f nw i).2+1)
where
  nvV (f:Cg) (nw:List UInt8) (ch i:Nat):Int:=if i<nw.length∧ch<4 then (((nw.getD i 0).toNat % ((f.nodes[i]?).map (·.vers.length)).getD 0:Nat):Int) else ((f.nodes[i]?).map (·.runs)).getD 0
def tH (f:Cg) (nw:List UInt8):List Int:=(Lj f nw f.nodes.length).1
theorem Pq {f:Cg} {nw:List UInt8}:∀ i,(Lj f nw i).1.length=i
  | 0=>rfl
  | i+1=>by rw [Lj,List.length_append,Pq i];rfl
def sfB (sf:List Nat) (a b:Nat):Bool:=decide (a=b) || (decide (a<sf.length) && decide (sf.getD a 0 / 2 ^ b % 2=1))
def sfR (sf:List Nat) (np a:Nat):List Bool:=(List.range np).map (sfB sf a)
def sfM (sf:List Nat) (np:Nat):List (List Bool):=(List.range np).map (sfR sf np)
theorem sfM_ok {f:Cg} {sf:List Nat}:SOk f (sfM sf f.progs.length) where
  n:=by unfold sfM;simp
  r r hr:=by
    obtain ⟨a,_,rfl⟩:=List.mem_map.1 hr
    unfold sfR;simp
def Wc (G:Ghost) (css:List (List Value)) (l:List (List Bool)):Prop:=Cr (nE G) css l∧∀ c∈css,c.length=1
theorem Wc.mono {G G':Ghost} (h:G.le G') {css:List (List Value)} {l:List (List Bool)} (hl:Wc G css l):Wc G' css l:=⟨Cr.mono (fun _ _ h2=>nE.mono h h2) hl.1,hl.2⟩
theorem Wc.snoc {G:Ghost} {css:List (List Value)} {l:List (List Bool)} {c:List Value} {a:(List Bool)} (hl:Wc G css l) (h:nE G c a) (hk:c.length=1):Wc G (css++[c]) (l++[a]) :=
  ⟨Cr.snoc hl.1 h,fun d hd=>by rcases List.mem_append.1 hd with hd | hd;exact hl.2 d hd;rw [List.mem_singleton.1 hd];exact hk⟩
theorem Wc.fin {G:Ghost} {css:List (List Value)} {l:List (List Bool)} {v:Value} {n:Nat} (hl:Wc G css l) (h:Sl G v 1 n css.flatten) (hn:n=l.length):gK G v l:=Be.ofSl h rfl hn hl.1 hl.2
theorem Wc.len {G:Ghost} {css:List (List Value)} {l:List (List Bool)} (hl:Wc G css l):css.length=l.length:=Cr.length hl.1
theorem nvS_T {f:Cg} {nw:List UInt8} {i:Nat} (hi:i<nw.length) (hc:(Lj f nw i).2<4) (hk:i<f.nodes.length):Lj.nvV f nw (Lj f nw i).2 i=((nw[i].toNat % f.nodes[i].vers.length:Nat):Int):=by
  unfold Lj.nvV;rw [if_pos ⟨hi,hc⟩,List.getD_eq_getElem?_getD,List.getElem?_eq_getElem hi,List.getElem?_eq_getElem hk];rfl
theorem dX {f:Cg} {nw:List UInt8} {i:Nat} (hc:¬ (i<nw.length∧(Lj f nw i).2<4)) (hk:i<f.nodes.length):Lj.nvV f nw (Lj f nw i).2 i=f.nodes[i].runs:=by
  unfold Lj.nvV;rw [if_neg hc,List.getElem?_eq_getElem hk];rfl
theorem Hi {f:Cg} {nw:List UInt8} {i:Nat} {v:Int} (hk:i<f.nodes.length) (hv:Lj.nvV f nw (Lj f nw i).2 i=v):(Lj f nw (i+1)).1=(Lj f nw i).1++[v]∧(Lj f nw (i+1)).2=if v=f.nodes[i].runs then (Lj f nw i).2 else (Lj f nw i).2+1:=by
  rw [Lj,hv,List.getElem?_eq_getElem hk];exact ⟨rfl,rfl⟩
theorem Ox {f:Cg} {nw:List UInt8}:∀ i,i≤f.nodes.length→(Lj f nw i).2≤4
  | 0,_=>Nat.zero_le _
  | i+1,h=>by
    have h4:=Ox (f:=f) (nw:=nw) i oM
    by_cases hc:i<nw.length∧(Lj f nw i).2<4
    · rw [(Hi oM rfl).2];split<;>omega
    · rw [(Hi oM (dX hc oM)).2,if_pos rfl];exact h4
theorem nH {f:Cg} {nw:List UInt8}:∀ n i,i<n→n≤f.nodes.length→(Lj f nw n).1.getD i 0=Lj.nvV f nw (Lj f nw i).2 i
  | n+1,i,h,hn=>by
    rw [(Hi oM rfl).1,List.getD_eq_getElem?_getD]
    rcases Nat.lt_or_ge i n with h1 | h1
    · rw [List.getElem?_append_left (by rw [Pq];exact h1),← List.getD_eq_getElem?_getD];exact nH n i h1 oM
    · obtain rfl:i=n:=by omega
      rw [List.getElem?_append_right (by rw [Pq];exact Nat.le_refl _),Pq,Nat.sub_self];rfl
theorem qI {f:Cg} {nw:List UInt8}:(tH f nw).length=f.nodes.length:=Pq _
theorem nvM_up {f:Cg} {nw:List UInt8}:∀ n,n≤f.nodes.length→((List.range n).filter (gJ f (tH f nw))).length=(Lj f nw n).2
  | 0,_=>rfl
  | n+1,h=>by
    have h1:(tH f nw).getD n 0=Lj.nvV f nw (Lj f nw n).2 n:=nH _ n oM (Nat.le_refl _)
    rw [Mc,List.length_append,nvM_up n oM,(Hi oM rfl).2]
    have h2:gJ f (tH f nw) n=decide (¬ Lj.nvV f nw (Lj f nw n).2 n=f.nodes[n].runs):=by
      unfold gJ;rw [h1,List.getD_eq_getElem?_getD,List.getElem?_map,List.getElem?_eq_getElem oM];rfl
    rw [h2]
    by_cases h3:Lj.nvV f nw (Lj f nw n).2 n=f.nodes[n].runs
    · rw [if_pos h3,h3];simp
    · rw [if_neg h3];simp [h3]
theorem nvM_ok {x:Ut} (hx:x.ok) {nw:List UInt8}:kE (Gc x) (tH (Gc x) nw) where
  g:=kC hx
  c:=fS hx
  n:=qI
  v i h:=by
    obtain ⟨hc0,hc1,hcn,hce,hcr⟩:=Qw (fS hx)
    obtain ⟨h1,h2,h3,h4,h5⟩:=Ot (List.all_eq_true.1 hcn _ (List.getElem_mem h))
    have e:(tH (Gc x) nw).getD i 0=Lj.nvV (Gc x) nw (Lj (Gc x) nw i).2 i:=nH _ i h (Nat.le_refl _)
    rw [e]
    by_cases hc:i<nw.length∧(Lj (Gc x) nw i).2<4
    · rw [nvS_T hc.1 hc.2 h]
      have:0<(Gc x).nodes[i].vers.length:=by omega
      have:=Nat.mod_lt nw[i].toNat this
      omega
    · rw [dX hc h];exact h4
  u:=by
    unfold Ip;rw [nvM_up _ (Nat.le_refl _)];exact Nat.le_trans (Ox _ (Nat.le_refl _)) dC
  r:=yW hx
theorem shr16 (a k:Nat) (hk:k<16):(a:Int).fdiv (2 ^ (min ((k:Int)).toNat IntKind.u16.bits))=((a / 2 ^ k:Nat):Int):=by
  have h1:min ((k:Int)).toNat IntKind.u16.bits=k:=by show min ((k:Int)).toNat 16=k;omega
  rw [h1,Int.fdiv_eq_ediv_of_nonneg _ (Int.pow_nonneg dC)]
  push_cast;rfl
theorem kL (a:Nat):Px .and .u16 (a:Int) 1=((a % 2:Nat):Int):=by
  show IntKind.u16.wrap ((BitVec.ofInt 16 (a:Int) &&& BitVec.ofInt 16 (1:Int)).toNat:Int)=_
  rw [BitVec.toNat_and,show (BitVec.ofInt 16 (a:Int)).toNat=a % 65536 from by rw [BitVec.toNat_ofInt];norm_cast,show (BitVec.ofInt 16 (1:Int)).toNat=1 from rfl,Nat.and_one_is_mod,iI]
  omega
def U16s (G:Ghost) (v:Value) (l:List Nat):Prop:=Sl G v 1 l.length (l.map fun x:Nat=>.int .u16 (x:Int))
theorem U16s.mono {G G':Ghost} (h:G.le G') {v:Value} {l:List Nat} (hl:U16s G v l):U16s G' v l:=Sl.mono h hl
theorem u16_at {l:List Nat} {i:Nat} (h:i<l.length):(l.map fun x:Nat=>Value.int .u16 (x:Int))[i]?=some (.int .u16 ((l.getD i 0:Nat):Int)):=by
  rw [List.getElem?_map,List.getElem?_eq_getElem h,List.getD_eq_getElem?_getD,List.getElem?_eq_getElem h];rfl
theorem bools_of {G:Ghost} {v:Value} {n:Nat} {xs:List Value} {l:List Bool} (h:Sl G v 1 n xs) (hn:n=l.length) (hx:xs=l.map Bc):Hr G v l:=by
  subst hn;subst hx;exact h
theorem rmd1_ok {G:Ghost} {sz p0 p1 p2 p3 n0 n1 n2 n3 n4:UInt8} {ed r0 r1 r2:Nat} {f:Cg} {Aw Aq:Option Addr} {cw cq:Nat} {nw:List UInt8} {sf:List Nat} {nv:List Int} {s:List (List Bool)} (hfe:f=Gc (aY sz p0 p1 p2 p3 n0 n1 n2 n3 n4 ed r0 r1 r2)) (hnv:nv=tH f nw) (hse:s=sfM sf f.progs.length) (hnw:Da G (.slice Aw nw.length cw) nw) (hsq:U16s G (.slice Aq sf.length cq) sf) (he:ed<4294967296) (h0:r0<65536) (h1:r1<65536) (h2:r2<65536) :
  Ai prog 11 [.agg #[.int .u8 (sz.toNat:Int),.int .u8 (p0.toNat:Int),.int .u8 (p1.toNat:Int),.int .u8 (p2.toNat:Int),.int .u8 (p3.toNat:Int),.int .u8 (n0.toNat:Int),.int .u8 (n1.toNat:Int),.int .u8 (n2.toNat:Int),.int .u8 (n3.toNat:Int),.int .u8 (n4.toNat:Int),.int .u32 (ed:Int),.int .u16 (r0:Int),.int .u16 (r1:Int),.int .u16 (r2:Int),.slice Aw nw.length cw,.slice Aq sf.length cq]] G [] fun r G' H'=>H'=[]∧∃ Ap An Ae Ar cp cn ce cr Au cu vs,r=.tuple #[.agg #[.slice Ap f.progs.length cp,.slice An f.nodes.length cn,.slice Ae f.edges.length ce,.slice Ar f.routes.length cr,.slice Au nv.length cu],vs]∧Ho G' Ap An Ae Ar cp cn ce cr f∧Bt G' (.slice Au nv.length cu) nv∧gK G' vs s:=by
 subst hnv
 subst hse
 have hok:=fT (sz:=sz) (p0:=p0) (p1:=p1) (p2:=p2) (p3:=p3) (n0:=n0) (n1:=n1) (n2:=n2) (n3:=n3) (n4:=n4) (ed:=ed) (r0:=r0) (r1:=r1) (r2:=r2) h0 h1 h2
 have hpc:=Ti sz.toNat
 have hnc:=Kz sz.toNat
 have hfp:f.progs.length=Jx sz.toNat:=by rw [hfe,fQ hok];rfl
 have hfn:f.nodes.length=Eh sz.toNat:=by rw [hfe,fP hok];rfl
 have hvn:∀ i,(h:i<f.nodes.length)→0<f.nodes[i].vers.length∧f.nodes[i].vers.length≤1000:=by subst hfe;intro i h;obtain ⟨hc0,hc1,hcn,hce,hcr⟩:=Qw (fS hok);obtain ⟨k1,k2,k3,k4,k5⟩:=Ot (List.all_eq_true.1 hcn _ (List.getElem_mem h));exact ⟨by omega,(kC hok).z.v _ (List.getElem_mem h)⟩
 refine Ai.of_T [(0,_)] func11 rfl ntmps11 sM rfl fun w0 hs=>?_
 have hnw0:=hnw
 have hsq0:=hsq
 refine Wt 2 [] hs rfl<|O_s (Sb hs rfl fun b1 _ hs=>O_s (Sa hs zeroValue45 rfl fun b2 _ hs=>Wp 6 [0,0,1] hs rfl<|O_s (Sc (rmad_ok he h0 h1 h2) hs rfl fun v1 G' H' _ hR hG15 hs=>?_)))
 obtain ⟨rfl,hF⟩:=hR
 replace hs:=hs.n rfl
 replace hnw:=hnw.mono hG15
 replace hsq:=hsq.mono hG15
 rw [← hfe] at hF
 obtain ⟨Ap,An,Ae,Ar,cp,cn,ce,cr,rfl,hf⟩:=hF
 refine Zy hs (Ba zeroValue45 rfl PL45 rfl (cs:=[_,_,_,_,_]) rfl<|O_s (Sa hs zeroValue45 rfl fun b4 _ hs=>O_n (Em hs sizeOf45 rfl rfl (vs:=[_,_,_,_,_]) rfl (rfl) sM (cs':=[_,_,_,_,_]) rfl fun _ hs =>Wp 10 [0,0,0] hs rfl ?_)))
 have hs:=hs.nilRow 3 1
 have hs:=hs.f2.f3.f3.f3
 obtain ⟨Gp0,hGp⟩:=hs.name
 subst hGp
 have hf_0:=hf
 refine Zl [1,2,4,5,6] (fun m E w=>∃ (i ch:Nat) (vu:Value) (G2:Ghost),i≤f.nodes.length∧(Lj f nw i).2=ch∧ch≤4∧Tm Gp0 G2∧m=f.nodes.length-i∧E=⟨[],[(1,Vp b1),(2,Vp b2),(4,Vp b4),(5,Vi (ch:Int)),(6,Vi (i:Int))]⟩∧St ⟨w0,G,Bl []⟩ G2 [.row 3 1 vu i ((Lj f nw i).1.map (.int .i64)),.blk b4 45 [.slice Ap f.progs.length cp,.slice An f.nodes.length cn,.slice Ae f.edges.length ce,.slice Ar f.routes.length cr,vu],.blk b1 32 [.int .u8 (sz.toNat:Int),.int .u8 (p0.toNat:Int),.int .u8 (p1.toNat:Int),.int .u8 (p2.toNat:Int),.int .u8 (p3.toNat:Int),.int .u8 (n0.toNat:Int),.int .u8 (n1.toNat:Int),.int .u8 (n2.toNat:Int),.int .u8 (n3.toNat:Int),.int .u8 (n4.toNat:Int),.int .u32 (ed:Int),.int .u16 (r0:Int),.int .u16 (r1:Int),.int .u16 (r2:Int),.slice Aw nw.length cw,.slice Aq sf.length cq],.blk b2 45 [Vn,Vn,Vn,Vn,Vn]] w) rfl (⟨0,0,_,_,by omega,rfl,by omega,Tm.refl _,rfl,rfl,hs⟩) fun m E w hI=>?_
 obtain ⟨i,ch,vu,G2,hi,hch,hch4,hlg0,rfl,rfl,hs⟩:=hI
 have hf:=hf_0.mono hlg0
 have hnw:=hnw0.mono hs.le
 have hsq:=hsq0.mono hs.le
 refine Wt 8 [0,1,1] hs rfl<|Zy hs (Yc rfl (fun h22=>?_) fun h22=>?_)
 ·
  refine Wp 11 [0,0,1,1] hs rfl<|Zy hs (Bp hf.n (i) underlying39 sizeOf76 rfl rfl rfl oM fun p29 c29 hp29 hc29 hR29=>?_)
  obtain ⟨u29,rfl,hv29⟩:=hR29
  obtain ⟨Av29,cv29,rfl,_⟩:=id hv29
  refine Zy hs (Cy (vs:=[.slice Av29 f.nodes[i].vers.length cv29,Vi f.nodes[i].runs,Vi f.nodes[i].claims,.bool f.nodes[i].up]) isAgg76 sizeOf76 rfl hp29 rfl<|O_s (Sa hs zeroValue76 rfl fun b7 _ hs=>O_n (Em hs sizeOf76 rfl rfl (vs:=[_,_,_,_]) rfl (rfl) sM (cs':=[_,_,_,_]) rfl fun _ hs =>Wp 14 [0,1,0,0,14,3] hs rfl<|Zy hs (Yc rfl (fun h37=>?_) fun h37=>?_))))
  ·
   refine Wp 2 [] hs rfl<|Zg hs rfl (Yc rfl (fun h40=>?_) fun h40=>?_)
   ·
    refine Wp 3 [8,1,2,4,5,6,7,8,41] hs rfl<|Bb [0,1,2,3,4,5,6,7,8,9,10] hs kR ?_
    replace hs:=hs.drew
    refine Xr [0,1,2] [14,3] hs rfl<|Xt 3 hs rfl (eE hnw i underlying29 sizeOf5 rfl rfl rfl oM fun p45 hp45 =>Xt 4 hs rfl (Yg rfl (hp45)<|Xt 5 hs rfl (Dl underlying5 underlying3 (c:=((nw[i]'oM).toNat:Int)) rfl (by have:=(nw[i]'oM).toNat_lt;rw [IntKind.wrap_i64];omega)<|Xr [6,7,8] [0,0] hs rfl<|Xt 9 hs rfl (Es (c:=(((nw[i]'oM).toNat % f.nodes[i].vers.length:Nat):Int)) rfl rfl oM (by have:=hvn i oM;omega) (Int.natCast_emod _ _).symm<|Xr [10] [] hs rfl<|Xe (Zk [1,2,4,5,6,7,8] rfl<|Wu 6 [1,0] hs rfl<|Zy hs (Yc rfl (fun h55=>?_) fun h55=>?_))))))
    ·
     refine Wp 4 [0] hs rfl<|Zy hs (Ya (s:=((ch+1:Nat):Int)) rfl<|Wp 6 [0,4,2] hs rfl<|O_s (Bw hs underlying33 sizeOf3 zeroValue3 rfl rfl dC dC rfl (cs:=[_]) rfl rfl fun v2 _ hs _=>?_))
     obtain ⟨_,hG61,hl61,hs⟩:=hs.fixRow noM
     replace hlg0:=hlg0.mono hG61
     refine O_s (Bf hs.f1 underlying33 Ko rfl dC rfl rfl (hl61) (Fh rfl) oM Z46 fun v3 _ hs =>Wp 1 [4] hs rfl<|O_n (Sd hs.f2 rfl (hs.f2.rowOne 1 rfl) fun _ hs=>Wp 3 [0] hs rfl<|Zy hs (Ya (s:=((i+1:Nat):Int)) rfl<|Wp 1 [] hs rfl ?_)))
     have hs:=hs.f4.f4.f2.f3
     have hnx:=Hi (f:=f) (nw:=nw) (i:=i) oM (nvS_T oM oM oM)
     rw [if_neg oM,hch] at hnx
     refine Zx [1,2,4,5,6] rfl ⟨i+1,_,_,_,by omega,hnx.2,by have:=Ox (f:=f) (nw:=nw) (i+1) oM;rw [hnx.2] at this;exact this,hlg0,rfl,rfl,Bz (hs.weak hs.le (Cj _) (Ea [_,_,_,_] _)) Z37⟩
    refine Wp 7 [0,4,2] hs rfl<|O_s (Bw hs underlying33 sizeOf3 zeroValue3 rfl rfl dC dC rfl (cs:=[_]) rfl rfl fun v4 _ hs _=>?_)
    obtain ⟨_,hG61,hl61,hs⟩:=hs.fixRow noM
    replace hlg0:=hlg0.mono hG61
    refine O_s (Bf hs.f1 underlying33 Ko rfl dC rfl rfl (hl61) (Fh rfl) oM Z46 fun v5 _ hs =>Wp 1 [4] hs rfl<|O_n (Sd hs.f2 rfl (hs.f2.rowOne 1 rfl) fun _ hs=>Wp 3 [0] hs rfl<|Zy hs (Ya (s:=((i+1:Nat):Int)) rfl<|Wp 1 [] hs rfl ?_)))
    have hs:=hs.f4.f4.f2.f3
    have hnx:=Hi (f:=f) (nw:=nw) (i:=i) oM (nvS_T oM oM oM)
    rw [if_pos oM,hch] at hnx
    refine Zx [1,2,4,5,6] rfl ⟨i+1,_,_,_,by omega,hnx.2,by have:=Ox (f:=f) (nw:=nw) (i+1) oM;rw [hnx.2] at this;exact this,hlg0,rfl,rfl,Bz (hs.weak hs.le (Cj _) (Ea [_,_,_,_] _)) Z37⟩
   refine Wp 10 [8,1,2,4,5,6,7,8,41,1,0] hs rfl<|Zy hs (Yc rfl (fun h55=>?_) fun h55=>?_)
   ·
    refine Wp 4 [0] hs rfl<|Zy hs (Ya (s:=((ch+1:Nat):Int)) rfl<|Wp 6 [0,4,2] hs rfl<|O_s (Bw hs underlying33 sizeOf3 zeroValue3 rfl rfl dC dC rfl (cs:=[_]) rfl rfl fun v6 _ hs _=>?_))
    obtain ⟨_,hG61,hl61,hs⟩:=hs.fixRow noM
    replace hlg0:=hlg0.mono hG61
    refine O_s (Bf hs.f1 underlying33 Ko rfl dC rfl rfl (hl61) (Fh rfl) oM Z46 fun v7 _ hs =>Wp 1 [4] hs rfl<|O_n (Sd hs.f2 rfl (hs.f2.rowOne 1 rfl) fun _ hs=>Wp 3 [0] hs rfl<|Zy hs (Ya (s:=((i+1:Nat):Int)) rfl<|Wp 1 [] hs rfl ?_)))
    have hs:=hs.f4.f4.f2.f3
    have hnx:=Hi (f:=f) (nw:=nw) (i:=i) oM (dX oM oM)
    rw [if_neg oM,hch] at hnx
    refine Zx [1,2,4,5,6] rfl ⟨i+1,_,_,_,by omega,hnx.2,by have:=Ox (f:=f) (nw:=nw) (i+1) oM;rw [hnx.2] at this;exact this,hlg0,rfl,rfl,Bz (hs.weak hs.le (Cj _) (Ea [_,_,_,_] _)) Z37⟩
   refine Wp 7 [0,4,2] hs rfl<|O_s (Bw hs underlying33 sizeOf3 zeroValue3 rfl rfl dC dC rfl (cs:=[_]) rfl rfl fun v8 _ hs _=>?_)
   obtain ⟨_,hG61,hl61,hs⟩:=hs.fixRow noM
   replace hlg0:=hlg0.mono hG61
   refine O_s (Bf hs.f1 underlying33 Ko rfl dC rfl rfl (hl61) (Fh rfl) oM Z46 fun v9 _ hs =>Wp 1 [4] hs rfl<|O_n (Sd hs.f2 rfl (hs.f2.rowOne 1 rfl) fun _ hs=>Wp 3 [0] hs rfl<|Zy hs (Ya (s:=((i+1:Nat):Int)) rfl<|Wp 1 [] hs rfl ?_)))
   have hs:=hs.f4.f4.f2.f3
   have hnx:=Hi (f:=f) (nw:=nw) (i:=i) oM (dX oM oM)
   rw [if_pos oM,hch] at hnx
   refine Zx [1,2,4,5,6] rfl ⟨i+1,_,_,_,by omega,hnx.2,by have:=Ox (f:=f) (nw:=nw) (i+1) oM;rw [hnx.2] at this;exact this,hlg0,rfl,rfl,Bz (hs.weak hs.le (Cj _) (Ea [_,_,_,_] _)) Z37⟩
  refine Wp 13 [8,1,2,4,5,6,7,8,41,1,0] hs rfl<|Zy hs (Yc rfl (fun h55=>?_) fun h55=>?_)
  ·
   refine Wp 4 [0] hs rfl<|Zy hs (Ya (s:=((ch+1:Nat):Int)) rfl<|Wp 6 [0,4,2] hs rfl<|O_s (Bw hs underlying33 sizeOf3 zeroValue3 rfl rfl dC dC rfl (cs:=[_]) rfl rfl fun v10 _ hs _=>?_))
   obtain ⟨_,hG61,hl61,hs⟩:=hs.fixRow noM
   replace hlg0:=hlg0.mono hG61
   refine O_s (Bf hs.f1 underlying33 Ko rfl dC rfl rfl (hl61) (Fh rfl) oM Z46 fun v11 _ hs =>Wp 1 [4] hs rfl<|O_n (Sd hs.f2 rfl (hs.f2.rowOne 1 rfl) fun _ hs=>Wp 3 [0] hs rfl<|Zy hs (Ya (s:=((i+1:Nat):Int)) rfl<|Wp 1 [] hs rfl ?_)))
   have hs:=hs.f4.f4.f2.f3
   have hnx:=Hi (f:=f) (nw:=nw) (i:=i) oM (dX oM oM)
   rw [if_neg oM,hch] at hnx
   refine Zx [1,2,4,5,6] rfl ⟨i+1,_,_,_,by omega,hnx.2,by have:=Ox (f:=f) (nw:=nw) (i+1) oM;rw [hnx.2] at this;exact this,hlg0,rfl,rfl,Bz (hs.weak hs.le (Cj _) (Ea [_,_,_,_] _)) Z37⟩
  refine Wp 7 [0,4,2] hs rfl<|O_s (Bw hs underlying33 sizeOf3 zeroValue3 rfl rfl dC dC rfl (cs:=[_]) rfl rfl fun v12 _ hs _=>?_)
  obtain ⟨_,hG61,hl61,hs⟩:=hs.fixRow noM
  replace hlg0:=hlg0.mono hG61
  refine O_s (Bf hs.f1 underlying33 Ko rfl dC rfl rfl (hl61) (Fh rfl) oM Z46 fun v13 _ hs =>Wp 1 [4] hs rfl<|O_n (Sd hs.f2 rfl (hs.f2.rowOne 1 rfl) fun _ hs=>Wp 3 [0] hs rfl<|Zy hs (Ya (s:=((i+1:Nat):Int)) rfl<|Wp 1 [] hs rfl ?_)))
  have hs:=hs.f4.f4.f2.f3
  have hnx:=Hi (f:=f) (nw:=nw) (i:=i) oM (dX oM oM)
  rw [if_pos oM,hch] at hnx
  refine Zx [1,2,4,5,6] rfl ⟨i+1,_,_,_,by omega,hnx.2,by have:=Ox (f:=f) (nw:=nw) (i+1) oM;rw [hnx.2] at this;exact this,hlg0,rfl,rfl,Bz (hs.weak hs.le (Cj _) (Ea [_,_,_,_] _)) Z37⟩
 refine Wp 3 [0] hs rfl ?_
 have hsN:=hs.fixRow noM
 clear hs
 obtain ⟨_,hG_hvu,hvu,hs⟩:=hsN
 replace hnw:=hnw.mono hG_hvu
 replace hsq:=hsq.mono hG_hvu
 replace hf:=hf.mono hG_hvu
 replace hlg0:=hlg0.mono hG_hvu
 have hnvI:Bt _ _ (tH f nw):=Pp hvu (by rw [qI];omega) (by rw [show tH f nw=(Lj f nw i).1 from by unfold tH;congr 2;omega])
 clear hvu
 obtain ⟨Au,cu,rfl,_⟩:=id hnvI
 refine Wu 2 [] hs rfl<|O_s (Bw hs underlying47 sizeOf64 zeroValue64 rfl rfl dC dC rfl (cs:=[]) rfl rfl fun v14 _ hs shl=>?_)
 obtain ⟨bl64,rfl⟩:=shl
 refine Wp 7 [0,0] hs rfl ?_
 have hs:=hs.f3.f3.f3.f3
 obtain ⟨Gp1,hGp⟩:=hs.name
 subst hGp
 have hf_1:=hf
 have hnvI_1:=hnvI
 have hlg0_1:=hlg0
 refine Zl [1,2,4,9,10] (fun m E w=>∃ (a:Nat) (v9:Value) (css:List (List Value)) (G2:Ghost),a≤f.progs.length∧Wc G2 css ((List.range a).map (sfR sf f.progs.length))∧Tm Gp1 G2∧m=f.progs.length-a∧E=⟨[],[(1,Vp b1),(2,Vp b2),(4,Vp b4),(9,v9),(10,Vi (a:Int))]⟩∧St ⟨w0,G,Bl []⟩ G2 [.row 64 1 v9 a css.flatten,.blk b4 45 [.slice Ap f.progs.length cp,.slice An f.nodes.length cn,.slice Ae f.edges.length ce,.slice Ar f.routes.length cr,.slice Au (tH f nw).length cu],.blk b1 32 [.int .u8 (sz.toNat:Int),.int .u8 (p0.toNat:Int),.int .u8 (p1.toNat:Int),.int .u8 (p2.toNat:Int),.int .u8 (p3.toNat:Int),.int .u8 (n0.toNat:Int),.int .u8 (n1.toNat:Int),.int .u8 (n2.toNat:Int),.int .u8 (n3.toNat:Int),.int .u8 (n4.toNat:Int),.int .u32 (ed:Int),.int .u16 (r0:Int),.int .u16 (r1:Int),.int .u16 (r2:Int),.slice Aw nw.length cw,.slice Aq sf.length cq],.blk b2 45 [Vn,Vn,Vn,Vn,Vn]] w) rfl (⟨0,_,[],_,by omega,⟨trivial,by simp⟩,Tm.refl _,rfl,rfl,hs⟩) fun m E w hI=>?_
 obtain ⟨a,v9,css,G2,ha,hA,hlg1,rfl,rfl,hs⟩:=hI
 have hf:=hf_1.mono hlg1
 have hnvI:=hnvI_1.mono hlg1
 have hlg0:=hlg0_1.mono hlg1
 have hnw:=hnw0.mono hs.le
 have hsq:=hsq0.mono hs.le
 refine Wt 8 [0,0,1] hs rfl<|Zy hs (Yc rfl (fun h70=>?_) fun h70=>?_)
 ·
  refine Wp 7 [0] hs rfl<|O_s (Bw hs underlying64 sizeOf4 zeroValue4 rfl rfl dC dC rfl (cs:=[]) rfl rfl fun v15 _ hs shl=>?_)
  obtain ⟨bl73,rfl⟩:=shl
  refine Wp 7 [0,0] hs rfl ?_
  have hs:=hs.f4.f4.f4.f4.f4
  obtain ⟨Gp2,hGp⟩:=hs.name
  subst hGp
  have hf_2:=hf
  have hnvI_2:=hnvI
  have hlg0_2:=hlg0
  have hlg1_2:=hlg1
  refine Zl [1,2,4,9,10,11,12] (fun m E w=>∃ (b:Nat) (v11 v9:Value) (G2:Ghost),b≤f.progs.length∧Wc G2 css ((List.range a).map (sfR sf f.progs.length))∧Tm Gp2 G2∧m=f.progs.length-b∧E=⟨[],[(1,Vp b1),(2,Vp b2),(4,Vp b4),(9,v9),(10,Vi (a:Int)),(11,v11),(12,Vi (b:Int))]⟩∧St ⟨w0,G,Bl []⟩ G2 [.row 4 1 v11 b (((List.range b).map (sfB sf a)).map Bc),.row 64 1 v9 a css.flatten,.blk b4 45 [.slice Ap f.progs.length cp,.slice An f.nodes.length cn,.slice Ae f.edges.length ce,.slice Ar f.routes.length cr,.slice Au (tH f nw).length cu],.blk b1 32 [.int .u8 (sz.toNat:Int),.int .u8 (p0.toNat:Int),.int .u8 (p1.toNat:Int),.int .u8 (p2.toNat:Int),.int .u8 (p3.toNat:Int),.int .u8 (n0.toNat:Int),.int .u8 (n1.toNat:Int),.int .u8 (n2.toNat:Int),.int .u8 (n3.toNat:Int),.int .u8 (n4.toNat:Int),.int .u32 (ed:Int),.int .u16 (r0:Int),.int .u16 (r1:Int),.int .u16 (r2:Int),.slice Aw nw.length cw,.slice Aq sf.length cq],.blk b2 45 [Vn,Vn,Vn,Vn,Vn]] w) rfl (⟨0,_,v9,_,by omega,hA,Tm.refl _,rfl,rfl,hs⟩) fun m E w hI=>?_
  obtain ⟨b,v11,v9,G2,hb,hA,hlg2,rfl,rfl,hs⟩:=hI
  have hf:=hf_2.mono hlg2
  have hnvI:=hnvI_2.mono hlg2
  have hlg0:=hlg0_2.mono hlg2
  have hlg1:=hlg1_2.mono hlg2
  have hnw:=hnw0.mono hs.le
  have hsq:=hsq0.mono hs.le
  refine Wt 8 [0,0,2] hs rfl<|Zy hs (Yc rfl (fun h79=>?_) fun h79=>?_)
  ·
   refine Wp 9 [0] hs rfl<|Zy hs (Yc rfl (fun h85=>?_) fun h85=>?_)
   ·
    refine Wp 7 [] hs rfl<|Eg 92 rfl rfl<|Eg 92 rfl rfl<|Eg 92 rfl rfl<|Eg 92 rfl rfl<|Eg 92 rfl rfl<|Eg 92 rfl rfl<|Eg 92 rfl rfl<|Eg 92 rfl rfl<|Eg 92 rfl rfl<|Wp 2 [] hs rfl<|O_s (Bw hs underlying64 sizeOf4 zeroValue4 rfl rfl dC dC rfl (cs:=[_]) rfl rfl fun v16 _ hs _=>?_)
    obtain ⟨_,hG104,hl104,hs⟩:=hs.fixRow noM
    replace hA:=hA.mono hG104
    replace hlg2:=hlg2.mono hG104
    refine O_s (Bf hs underlying64 oN rfl dC rfl rfl (hl104) (Fh rfl) oM Lk fun v17 _ hs =>Wp 4 [7,1,2,4,9,10,11,12] hs rfl<|Zy hs (Ya (s:=((b+1:Nat):Int)) rfl<|Wp 1 [] hs rfl ?_))
    have hsb:sfB sf a b=true:=by unfold sfB;rw [decide_eq_true (show a=b by omega)];rfl
    have hs:=hs.f4.f4.f4.f4.f4
    refine Zx [1,2,4,9,10,11,12] rfl ⟨b+1,_,v9,_,by omega,hA,hlg2,rfl,rfl,Bz (hs.weak hs.le (Cj _) (Ea [_,_,_,_,_] _)) Z16⟩
   refine Wp 5 [15,3] hs rfl<|Zg hs rfl (Yc rfl (fun h91=>?_) fun h91=>?_)
   ·
    refine Wp 4 [15,3] hs rfl<|Zg hs rfl (Hu a underlying30 sizeOf25 hsq rfl rfl rfl (u16_at oM) fun p96 hp96 =>Zg hs rfl (Yg rfl (hp96)<|Wp 1 [] hs rfl<|Zg hs rfl (Xg (c:=(((sf.getD a 0 / 2 ^ b):Nat):Int)) rfl rfl oM (shr16 _ _ oM)<|Zg hs rfl (Tu (c:=(((sf.getD a 0 / 2 ^ b) % 2:Nat):Int)) rfl rfl sM (kL _)<|Zg hs rfl (Yc rfl (fun h101=>?_) fun h101=>?_)))))
    ·
     refine Wp 2 [] hs rfl<|O_s (Bw hs underlying64 sizeOf4 zeroValue4 rfl rfl dC dC rfl (cs:=[_]) rfl rfl fun v18 _ hs _=>?_)
     obtain ⟨_,hG104,hl104,hs⟩:=hs.fixRow noM
     replace hA:=hA.mono hG104
     replace hlg2:=hlg2.mono hG104
     refine O_s (Bf hs underlying64 oN rfl dC rfl rfl (hl104) (Fh rfl) oM Lk fun v19 _ hs =>Wp 4 [7,1,2,4,9,10,11,12] hs rfl<|Zy hs (Ya (s:=((b+1:Nat):Int)) rfl<|Wp 1 [] hs rfl ?_))
     have hsb:sfB sf a b=true:=by unfold sfB;rw [decide_eq_false (show ¬ a=b by omega),decide_eq_true (show a<sf.length by omega),decide_eq_true (show sf.getD a 0 / 2 ^ b % 2=1 by omega)];rfl
     have hs:=hs.f4.f4.f4.f4.f4
     refine Zx [1,2,4,9,10,11,12] rfl ⟨b+1,_,v9,_,by omega,hA,hlg2,rfl,rfl,Bz (hs.weak hs.le (Cj _) (Ea [_,_,_,_,_] _)) Z16⟩
    refine Wp 2 [] hs rfl<|O_s (Bw hs underlying64 sizeOf4 zeroValue4 rfl rfl dC dC rfl (cs:=[_]) rfl rfl fun v20 _ hs _=>?_)
    obtain ⟨_,hG104,hl104,hs⟩:=hs.fixRow noM
    replace hA:=hA.mono hG104
    replace hlg2:=hlg2.mono hG104
    refine O_s (Bf hs underlying64 oN rfl dC rfl rfl (hl104) (Fh rfl) oM Lk fun v21 _ hs =>Wp 4 [7,1,2,4,9,10,11,12] hs rfl<|Zy hs (Ya (s:=((b+1:Nat):Int)) rfl<|Wp 1 [] hs rfl ?_))
    have hsb:sfB sf a b=false:=by unfold sfB;rw [decide_eq_false (show ¬ a=b by omega),decide_eq_true (show a<sf.length by omega),decide_eq_false (show ¬ sf.getD a 0 / 2 ^ b % 2=1 by omega)];rfl
    have hs:=hs.f4.f4.f4.f4.f4
    refine Zx [1,2,4,9,10,11,12] rfl ⟨b+1,_,v9,_,by omega,hA,hlg2,rfl,rfl,Bz (hs.weak hs.le (Cj _) (Ea [_,_,_,_,_] _)) Z16⟩
   refine Wp 12 [] hs rfl<|O_s (Bw hs underlying64 sizeOf4 zeroValue4 rfl rfl dC dC rfl (cs:=[_]) rfl rfl fun v22 _ hs _=>?_)
   obtain ⟨_,hG104,hl104,hs⟩:=hs.fixRow noM
   replace hA:=hA.mono hG104
   replace hlg2:=hlg2.mono hG104
   refine O_s (Bf hs underlying64 oN rfl dC rfl rfl (hl104) (Fh rfl) oM Lk fun v23 _ hs =>Wp 4 [7,1,2,4,9,10,11,12] hs rfl<|Zy hs (Ya (s:=((b+1:Nat):Int)) rfl<|Wp 1 [] hs rfl ?_))
   have hsb:sfB sf a b=false:=by unfold sfB;rw [decide_eq_false (show ¬ a=b by omega),decide_eq_false (show ¬ a<sf.length by omega)];rfl
   have hs:=hs.f4.f4.f4.f4.f4
   refine Zx [1,2,4,9,10,11,12] rfl ⟨b+1,_,v9,_,by omega,hA,hlg2,rfl,rfl,Bz (hs.weak hs.le (Cj _) (Ea [_,_,_,_,_] _)) Z16⟩
  refine Wp 3 [0] hs rfl ?_
  have hsN:=hs.fixRow noM
  clear hs
  obtain ⟨_,hG_hvb,hvb,hs⟩:=hsN
  replace hA:=hA.mono hG_hvb
  replace hlg1:=hlg1.mono hG_hvb
  have hbl:Hr _ _ (sfR sf f.progs.length a):=bools_of hvb (by unfold sfR;simp;omega) (by unfold sfR;rw [show b=f.progs.length from by omega])
  clear hvb
  obtain ⟨A11,c11,rfl,_⟩:=id hbl
  refine Wu 3 [] hs rfl<|O_s (Bw hs underlying47 sizeOf64 zeroValue64 rfl rfl dC dC rfl (cs:=[_]) rfl rfl fun v24 _ hs _=>?_)
  obtain ⟨_,hG108,hl108,hs⟩:=hs.fixRow noM
  replace hA:=hA.mono hG108
  replace hlg1:=hlg1.mono hG108
  replace hbl:=hbl.mono hG108
  refine O_s (Bf hs underlying47 TI64 rfl dC rfl rfl (hl108) (Fh rfl) oM oM fun v25 _ hs =>Wp 4 [0] hs rfl<|Zy hs (Ya (s:=((a+1:Nat):Int)) rfl<|Wp 1 [] hs rfl ?_))
  have hs:=hs.f3.f3.f3.f3
  refine Zx [1,2,4,9,10] rfl ⟨a+1,_,css++[[.slice A11 (sfR sf f.progs.length a).length c11]],_,by omega,by rw [List.range_succ,List.map_append];exact hA.snoc ⟨_,rfl,hbl⟩ rfl,hlg1,rfl,rfl,Bz (hs.weak hs.le (Cj _) (Ea [_,_,_,_] _)) sM⟩
 refine Wp 3 [0] hs rfl<|Wu 4 [1] hs rfl<|O_n (Em hs.f3 sizeOf45 rfl rfl (vs:=[_,_,_,_,_]) rfl ((by simp only [List.all_cons,List.all_nil];rfl)) sM (cs':=[_,_,_,_,_]) rfl fun _ hs =>Wp 2 [0] hs rfl<|Ah ?_)
 have hs:=hs.f1
 obtain ⟨_,hG_hfv,hfv,hs⟩:=hs.fixRow noM
 replace hA:=hA.mono hG_hfv
 replace hf:=hf.mono hG_hfv
 replace hnvI:=hnvI.mono hG_hfv
 have hr:=hs
 refine Bi (vs:=[_,_]) results11 rfl ⟨Bk 0 hr isAgg45 sizeOf45 rfl (cs:=[_,_,_,_,_]) rfl rfl,rfl,trivial⟩ ?_
 try dsimp only [tup]
 have han:a=f.progs.length:=by omega
 rw [han] at hA hfv
 exact ⟨_,[],hs.done,rfl,_,_,_,_,_,_,_,_,_,_,_,rfl,hf,hnvI,hA.fin hfv sM⟩
def Oy:Cg:=⟨[Di 0,Di 1],[⟨[0,1],0,0,false⟩,⟨[0,1],0,0,false⟩],[(0,1)],[[0,1]]⟩
def Vu:List Int:=[1,1]
theorem f2_ok:FOk Oy:=⟨⟨by decide,by decide,by decide,by decide⟩,fun p h=>.inl (by
  have h':p∈[Di 0,Di 1]:=h
  simp only [List.mem_cons,List.not_mem_nil,or_false] at h'
  rcases h' with rfl | rfl
  · exact bC dC
  · exact bC dC),by decide,by decide⟩
theorem f2_c:Dm Oy=0:=by kernel_rfl
theorem kM:kE Oy Vu:=⟨f2_ok,f2_c,rfl,fun i h=>by
  have h':i<2:=h
  match i,h' with
  | 0,_=>exact ⟨by decide,by show Vu.getD 0 0<((2:Nat):Int);decide⟩
  | 1,_=>exact ⟨by decide,by show Vu.getD 1 0<((2:Nat):Int);decide⟩,by decide,by decide⟩
theorem bJ:Ja Oy [0]:=⟨by decide,fun x=>by rw [show Wa Oy=[0] from by decide]⟩
theorem nds_two {G:Ghost} {v a b:Value} {x y:Oq} (h:Sl G v 4 2 [a,Vi x.runs,Vi x.claims,.bool x.up,b,Vi y.runs,Vi y.claims,.bool y.up]) (ha:Bt G a x.vers) (hb:Bt G b y.vers):yF G v [x,y] :=
  Be.ofSl (cs:=[[a,Vi x.runs,Vi x.claims,.bool x.up],[b,Vi y.runs,Vi y.claims,.bool y.up]]) h rfl rfl ⟨⟨_,rfl,ha⟩,⟨_,rfl,hb⟩,trivial⟩ Z12
theorem pgs_two {G:Ghost} {v a b c d:Value} {p q:By} (h:Sl G v 2 2 [a,b,c,d]) (hp:pM G [a,b] p) (hq:pM G [c,d] q):sT G v [p,q] :=
  Be.ofSl (cs:=[[a,b],[c,d]]) h rfl rfl ⟨hp,hq,trivial⟩ Z12
theorem Pr {G:Ghost} {v a b:Value} {x y:List Bool} (h:Sl G v 1 2 [a,b]) (ha:Hr G a x) (hb:Hr G b y):gK G v [x,y] :=
  Be.ofSl (cs:=[[a],[b]]) h rfl rfl ⟨⟨_,rfl,ha⟩,⟨_,rfl,hb⟩,trivial⟩ Z12
theorem Ps {x y:List Bool} (hx:x.length=2) (hy:y.length=2):SOk Oy [x,y]:=⟨rfl,fun r h=>by simp only [List.mem_cons,List.not_mem_nil,or_false] at h;rcases h with rfl | rfl;exact hx;exact hy⟩
def s2a:List (List Bool):=[[true,true],[true,true]]
def s2b:List (List Bool):=[[true,true],[false,true]]
def tN:List (List Bool):=[[true,false],[false,true]]
theorem f2_a:bE (Kr Oy Vu s2a [0]) none (Gk (Ip Oy Vu).length [] (Ip Oy Vu))=some ([0,1],[]):=by kernel_rfl
theorem f2_b:bE (Kr Oy Vu s2b [0]) none (Gk (Ip Oy Vu).length [] (Ip Oy Vu))=some ([1,0],[]):=by kernel_rfl
theorem f2_x:bE (Kr Oy Vu tN [0]) none (Gk (Ip Oy Vu).length [] (Ip Oy Vu))=some ([0,1],[0]):=by kernel_rfl
theorem f2_f:Ih Oy Vu [0] [0,1] [0]:=by unfold Ih;decide
theorem f2_g:Ih Oy Vu [0] [0,1] []:=by unfold Ih;decide
theorem f2_h:¬ Ih Oy Vu [0] [0] []:=by unfold Ih;decide
theorem f2_k:∀ x∈Kr Oy Vu tN [0] [0,1],x∈[(0:Int)]:=by decide
theorem f2_l:¬ ∀ x∈Kr Oy Vu tN [0] [0,1],x∈([]:List Int):=by decide
theorem ltP_anti {a b:Int×Int} (h1:kU a b=false) (h2:kU b a=false):a=b:=by
  have k1:=fun h=>Bool.eq_false_iff.1 h1 (Kx.2 h)
  have k2:=fun h=>Bool.eq_false_iff.1 h2 (Kx.2 h)
  obtain ⟨a1,a2⟩:=a
  obtain ⟨b1,b2⟩:=b
  have:a1=b1∧a2=b2:=by
    dsimp only at k1 k2
    rcases Int.lt_trichotomy a1 b1 with h | h | h
    · exact absurd (.inl h) k1
    · rcases Int.lt_trichotomy a2 b2 with h' | h' | h'
      · exact absurd (.inr ⟨h,h'⟩) k1
      · exact ⟨h,h'⟩
      · exact absurd (.inr ⟨h.symm,h'⟩) k2
    · exact absurd (.inl h) k2
  rw [this.1,this.2]
theorem srtP_eq {q q':List (Int×Int)} (h1:Srt kU q) (h2:Srt kU q') (hn:q.Nodup) (hn':q'.Nodup) (h:∀ p,p∈q↔p∈q'):q=q' :=
  List.Perm.eq_of_pairwise (le:=fun a b=>kU b a=false) (fun a b _ _ h1 h2=>ltP_anti h2 h1) h1 h2 ((List.perm_ext_iff_of_nodup hn hn').2 h)
theorem f2_n {q:List (Int×Int)} (h1:Srt kU q) (hn:q.Nodup) (h:∀ p,p∈q↔gF Oy Vu [0] [0,1] [] (fY Oy Vu [0,1]).length p):q=[(0,0),(1,0),(1,1)]:=by
  refine srtP_eq h1 (by unfold Srt;decide) hn dC fun p=>(h p).trans ?_
  have e:fY Oy Vu [0,1]=[[0,0],[1,0],[1,1]]:=by kernel_rfl
  unfold gF
  rw [e]
  have e0:tF Oy [0,0] 0=(0,0):=by kernel_rfl
  have e1:tF Oy [1,0] 0=(1,0):=by kernel_rfl
  have e2:tF Oy [1,1] 0=(1,1):=by kernel_rfl
  constructor
  · rintro ⟨j,x,hj,hx,y,hy,_,rfl⟩
    obtain rfl:y=0:=by simpa using hy
    have hj':j<3:=hj
    match j,hj' with
    | 0,_=>(have:[(0:Int),0]=x:=by simpa using hx);subst this;rw [e0];simp
    | 1,_=>(have:[(1:Int),0]=x:=by simpa using hx);subst this;rw [e1];simp
    | 2,_=>(have:[(1:Int),1]=x:=by simpa using hx);subst this;rw [e2];simp
  · intro hp
    simp only [List.mem_cons,List.not_mem_nil,or_false] at hp
    rcases hp with rfl | rfl | rfl
    · exact ⟨0,_,by decide,rfl,0,by simp,by simp,e0.symm⟩
    · exact ⟨1,_,by decide,rfl,0,by simp,by simp,e1.symm⟩
    · exact ⟨2,_,by decide,rfl,0,by simp,by simp,e2.symm⟩
theorem two_ok {G:Ghost} :
  Ai prog 27 [] G [] fun r G' H'=>H'=[]∧∃ Ap An Ae Ar cp cn ce cr Au cu,r=.agg #[.slice Ap Oy.progs.length cp,.slice An Oy.nodes.length cn,.slice Ae Oy.edges.length ce,.slice Ar Oy.routes.length cr,.slice Au Vu.length cu]∧Ho G' Ap An Ae Ar cp cn ce cr Oy∧Bt G' (.slice Au Vu.length cu) Vu:=by
 refine Ai.of_T [] func27 rfl ntmps27 sM rfl fun w0 hs =>Wt 2 [] hs rfl<|O_s (Sa hs zeroValue45 rfl fun b0 _ hs=>Wp 3 [0] hs rfl<|O_s (Sc (fM (k:=0)) hs rfl fun v1 G' H' _ hR hG2 hs=>?_))
 obtain ⟨rfl,wa2,wb2,rfl,hPg2⟩:=hR
 replace hs:=hs.n rfl
 obtain ⟨Aa2,ka2,Ab2,kb2,rfl,rfl⟩:=hPg2.slices
 refine O_s (Sc (fM (k:=1)) hs rfl fun v2 G' H' _ hR hG3 hs=>?_)
 obtain ⟨rfl,wa3,wb3,rfl,hPg3⟩:=hR
 replace hs:=hs.n rfl
 replace hPg2:=hPg2.mono hG3
 obtain ⟨Aa3,ka3,Ab3,kb3,rfl,rfl⟩:=hPg3.slices
 refine O_s (Se hs zeroValue102 rfl fun v3 _ hs _=>?_)
 have hsN:=hs.fixRow noM
 clear hs
 obtain ⟨_,hG4,hl4,hs⟩:=hsN
 replace hPg2:=hPg2.mono hG4
 replace hPg3:=hPg3.mono hG4
 obtain ⟨A4,c4,rfl,_⟩:=id hl4
 refine O_s (Se hs zeroValue3 rfl fun v4 _ hs _=>?_)
 have hsN:=hs.fixRow noM
 clear hs
 obtain ⟨_,hG5,hl5,hs⟩:=hsN
 replace hPg2:=hPg2.mono hG5
 replace hPg3:=hPg3.mono hG5
 replace hl4:=hl4.mono hG5
 obtain ⟨A5,c5,rfl,_⟩:=id hl5
 refine Zy hs (Ba zeroValue76 rfl PL76 rfl (cs:=[_,_,_,_]) rfl<|O_s (Se hs zeroValue3 rfl fun v5 _ hs _=>?_))
 have hsN:=hs.fixRow noM
 clear hs
 obtain ⟨_,hG7,hl7,hs⟩:=hsN
 replace hPg2:=hPg2.mono hG7
 replace hPg3:=hPg3.mono hG7
 replace hl4:=hl4.mono hG7
 replace hl5:=hl5.mono hG7
 obtain ⟨A7,c7,rfl,_⟩:=id hl7
 refine Zy hs (Ba zeroValue76 rfl PL76 rfl (cs:=[_,_,_,_]) rfl<|O_s (Se hs zeroValue76 rfl fun v6 _ hs _=>?_))
 have hsN:=hs.fixRow noM
 clear hs
 obtain ⟨_,hG9,hl9,hs⟩:=hsN
 replace hPg2:=hPg2.mono hG9
 replace hPg3:=hPg3.mono hG9
 replace hl4:=hl4.mono hG9
 replace hl5:=hl5.mono hG9
 replace hl7:=hl7.mono hG9
 obtain ⟨A9,c9,rfl,_⟩:=id hl9
 refine Zy hs (Ct underlying70 sizeOf3 zeroValue70 rfl rfl (cs:=[_,_]) rfl<|O_s (Se hs zeroValue70 rfl fun v7 _ hs _=>?_))
 have hsN:=hs.fixRow noM
 clear hs
 obtain ⟨_,hG11,hl11,hs⟩:=hsN
 replace hPg2:=hPg2.mono hG11
 replace hPg3:=hPg3.mono hG11
 replace hl4:=hl4.mono hG11
 replace hl5:=hl5.mono hG11
 replace hl7:=hl7.mono hG11
 replace hl9:=hl9.mono hG11
 obtain ⟨A11,c11,rfl,_⟩:=id hl11
 refine O_s (Se hs zeroValue3 rfl fun v8 _ hs _=>?_)
 have hsN:=hs.fixRow noM
 clear hs
 obtain ⟨_,hG12,hl12,hs⟩:=hsN
 replace hPg2:=hPg2.mono hG12
 replace hPg3:=hPg3.mono hG12
 replace hl4:=hl4.mono hG12
 replace hl5:=hl5.mono hG12
 replace hl7:=hl7.mono hG12
 replace hl9:=hl9.mono hG12
 replace hl11:=hl11.mono hG12
 obtain ⟨A12,c12,rfl,_⟩:=id hl12
 refine O_s (Se hs zeroValue33 rfl fun v9 _ hs _=>?_)
 have hsN:=hs.fixRow noM
 clear hs
 obtain ⟨_,hG13,hl13,hs⟩:=hsN
 replace hPg2:=hPg2.mono hG13
 replace hPg3:=hPg3.mono hG13
 replace hl4:=hl4.mono hG13
 replace hl5:=hl5.mono hG13
 replace hl7:=hl7.mono hG13
 replace hl9:=hl9.mono hG13
 replace hl11:=hl11.mono hG13
 replace hl12:=hl12.mono hG13
 obtain ⟨A13,c13,rfl,_⟩:=id hl13
 refine Zy hs (Ba zeroValue43 rfl PL43 rfl (cs:=[_,_,_,_]) rfl<|O_s (Sa hs zeroValue43 rfl fun b1 _ hs=>O_n (Sg hs rfl (rfl) fun _ hs=>Wp 4 [0,0] hs rfl<|O_s (Se hs zeroValue3 rfl fun v10 _ hs _=>?_))))
 have hsN:=hs.fixRow noM
 clear hs
 obtain ⟨_,hG16,hl16,hs⟩:=hsN
 replace hPg2:=hPg2.mono hG16
 replace hPg3:=hPg3.mono hG16
 replace hl4:=hl4.mono hG16
 replace hl5:=hl5.mono hG16
 replace hl7:=hl7.mono hG16
 replace hl9:=hl9.mono hG16
 replace hl11:=hl11.mono hG16
 replace hl12:=hl12.mono hG16
 replace hl13:=hl13.mono hG16
 obtain ⟨A16,c16,rfl,_⟩:=id hl16
 refine Zy hs (Ba zeroValue45 rfl PL45 rfl (cs:=[_,_,_,_,_]) rfl<|O_n (Sg hs.f1 rfl (rfl) fun _ hs=>Wp 1 [0] hs rfl<|Ah<|Zz results27 (Rb 0 hs rfl rF) ?_))
 exact ⟨_,[],hs.done,rfl,A4,A9,A11,A13,c4,c9,c11,c13,A16,c16,rfl,⟨pgs_two hl4 hPg2 hPg3,nds_two hl9 hl5 hl7,fI (q:=[(0,1)]) hl11,Ou.fin hl13 rfl ⟨hl12,trivial⟩⟩,hl16⟩
def Oz:List Int→List Int→Bool
  | a::s,b::t=>if a=b then Oz s t else decide (a<b)
  | _,_=>false
theorem Rd {a b:List Int} {k:Nat} (h1:k<a.length) (h2:k<b.length):Oz (a.drop k) (b.drop k)=if a[k]=b[k] then Oz (a.drop (k+1)) (b.drop (k+1)) else decide (a[k]<b[k]):=by
  rw [List.drop_eq_getElem_cons h1,List.drop_eq_getElem_cons h2,Oz]
theorem dY {a b:List Int} {k:Nat} (h:a.length≤k∨b.length≤k):Oz (a.drop k) (b.drop k)=false:=by
  rcases h with h | h
  · rw [List.drop_eq_nil_of_le h];cases b.drop k<;>rfl
  · rw [List.drop_eq_nil_of_le h];cases a.drop k<;>rfl
theorem less_pr {a b:Int×Int} (h:kU a b=true):Oz [a.1,a.2] [b.1,b.2]=true:=by
  have:=Kx.1 h
  simp only [Oz]
  split
  · split
    · omega
    · exact decide_eq_true oM
  · exact decide_eq_true oM
theorem qJ {G:Ghost} {p:Addr} {a b:Int} (h:∀ (j:Nat) (u:Value),[Value.int .i64 a,Vi b][j]?=some u→Fl G (p.add j)=some u):Bt G (.slice (some p) 2 2) [a,b] :=
  ⟨_,_,rfl,rfl,Nat.le_refl _,by decide,fun _=>⟨_,rfl,h⟩⟩
section
variable {x:Cx} {W:World→Prop} {E:Env} {K:Value→Prop} {d:Option Tmp} {ty:TypeId} {pos:String} {aft:Array Edge} {g:Option (Nat×Bool)} {o:Operand}
theorem dZ {t e:TypeId} {p:Addr} {n:Nat} (hu:x.P.underlying t=some (.array n e)) (hs:∀ w,(sizeOf e).run x.P w=.ok 1 w) (h1:ev E o=some (.pointer (some p))) (h0:0<n) (k:K (.slice (some p) n n)):Y x W ⟨d,.slice t o none none none,ty,pos,aft,g⟩ E K:=by
  have ha:p.add 0=p:=by unfold Addr.add;simp
  refine Dh (v:=.slice (some p) n n) (fun f hf w _=>?_) k
  have hne:¬ n=0:=by omega
  simp [execOp,hf.ev h1,Instr.sliceAt,Instr.sureAddr,Instr.sliceBounds,Instr.sliceBound,run_underlying hu,hs w,ha,hne]
end
theorem lesi_ok {G:Ghost} {Aa Ab:Option Addr} {ca cb:Nat} {a b:List Int} (ha:Bt G (.slice Aa a.length ca) a) (hb:Bt G (.slice Ab b.length cb) b) (hal:a.length≤1000) (hbl:b.length≤1000) :
  Ai prog 24 [.slice Aa a.length ca,.slice Ab b.length cb] G [] fun r _ H'=>H'=[]∧r=.bool (Oz a b):=by
 refine Ai.of_T [(0,_),(1,_)] func24 rfl ntmps24 sM rfl fun w0 hs=>?_
 have ha0:=ha
 have hb0:=hb
 refine Wt 9 [0,0] hs rfl<|Zl [0,1,5] (fun m E w=>∃ (k:Nat) (G2:Ghost),k≤a.length∧Oz (a.drop k) (b.drop k)=Oz a b∧m=a.length-k∧E=⟨[],[(0,.slice Aa a.length ca),(1,.slice Ab b.length cb),(5,Vi (k:Int))]⟩∧St ⟨w0,G,Bl []⟩ G2 [] w) rfl (⟨0,_,by omega,rfl,rfl,rfl,hs⟩) fun m E w hI=>?_
 obtain ⟨k,G2,hk,hke,rfl,rfl,hs⟩:=hI
 have ha:=ha0.mono hs.le
 have hb:=hb0.mono hs.le
 refine Wt 6 [] hs rfl<|Zy hs (Yc rfl (fun h9=>?_) fun h9=>?_)
 ·
  refine Wp 4 [] hs rfl<|Zg hs rfl (Yc rfl (fun h14=>?_) fun h14=>?_)
  ·
   refine Wp 7 [0] hs rfl<|Bb [0,1,2,3,4,5,6,7,8] hs kR ?_
   replace hs:=hs.drew
   refine Xr [0,1] [] hs rfl<|Xt 2 hs rfl (Dd ha k underlying33 sizeOf3 rfl rfl rfl oM fun p20 hp20 =>Xt 3 hs rfl (Yg rfl (hp20)<|Xr [4,5] [] hs rfl<|Xt 6 hs rfl (Dd hb k underlying33 sizeOf3 rfl rfl rfl oM fun p24 hp24 =>Xt 7 hs rfl (Yg rfl (hp24)<|Xt 8 hs rfl (Jd rfl rfl rfl (fun h26=>?_) (fun h26=>?_))))))
   ·
    dsimp only [Gq] at h26
    refine Xe (Zk [0,1,5,26] rfl<|Wu 2 [] hs rfl<|Bb [0,1,2,3,4,5,6,7,8,9] hs kR ?_)
    replace hs:=hs.drew
    refine Xr [0,1] [] hs rfl<|Xt 2 hs rfl (Dd ha k underlying33 sizeOf3 rfl rfl rfl oM fun p29 hp29 =>Xt 3 hs rfl (Yg rfl (hp29)<|Xr [4,5] [] hs rfl<|Xt 6 hs rfl (Dd hb k underlying33 sizeOf3 rfl rfl rfl oM fun p33 hp33 =>Xt 7 hs rfl (Yg rfl (hp33)<|Xt 8 hs rfl (Jd rfl rfl rfl (fun h35=>?_) (fun h35=>?_))))))
    ·
     dsimp only [Gq] at h35
     refine Xr [9] [] hs rfl<|Xe (Zk [4] rfl<|Ah<|Zz results24 rfl ?_)
     have hld:=Rd (a:=a) (b:=b) (k:=k) oM oM
     rw [if_neg oM,hke] at hld
     exact ⟨_,[],hs.done,rfl,congrArg Value.bool (by rw [hld];exact (decide_eq_true oM).symm)⟩
    dsimp only [Gq] at h35
    refine Xr [9] [] hs rfl<|Xe (Zk [4] rfl<|Ah<|Zz results24 rfl ?_)
    have hld:=Rd (a:=a) (b:=b) (k:=k) oM oM
    rw [if_neg oM,hke] at hld
    exact ⟨_,[],hs.done,rfl,congrArg Value.bool (by rw [hld];exact (decide_eq_false oM).symm)⟩
   dsimp only [Gq] at h26
   refine Xe (Zk [0,1,5,26] rfl<|Wu 4 [] hs rfl<|Zy hs (Ya (s:=((k+1:Nat):Int)) rfl<|Wp 1 [] hs rfl ?_))
   have hld:=Rd (a:=a) (b:=b) (k:=k) oM oM
   rw [if_pos oM] at hld
   refine Zx [0,1,5] rfl ⟨k+1,_,by omega,by rw [← hld];exact hke,rfl,rfl,hs⟩
  refine Wp 4 [0] hs rfl<|Wu 4 [0] hs rfl<|Ah<|Zz results24 rfl ?_
  exact ⟨_,[],hs.done,rfl,congrArg Value.bool (by rw [← hke];exact (dY oM).symm)⟩
 refine Wp 9 [0] hs rfl<|Wu 4 [0] hs rfl<|Ah<|Zz results24 rfl ?_
 exact ⟨_,[],hs.done,rfl,congrArg Value.bool (by rw [← hke];exact (dY oM).symm)⟩
theorem plan_ok {G:Ghost} {Ap An Ae Ar:Option Addr} {cp cn ce cr:Nat} {f:Cg} {Au:Option Addr} {cu:Nat} {nv:List Int} {pk pc:Nat} (hf:Ho G Ap An Ae Ar cp cn ce cr f) (hu:Bt G (.slice Au nv.length cu) nv) (hk:kE f nv) (hp6:pk<65536) (hc6:pc<65536) :
  Ai prog 14 [.agg #[.slice Ap f.progs.length cp,.slice An f.nodes.length cn,.slice Ae f.edges.length ce,.slice Ar f.routes.length cr,.slice Au nv.length cu],.int .u16 (pk:Int),.int .u16 (pc:Int)] G [] fun r G' H'=>H'=[]∧∃ Ao Ac co cc o q,r=.agg #[.slice Ao o.length co,.slice Ac q.length cc]∧o∈Gk (Ip f nv).length [] (Ip f nv)∧q.length≤16∧Cc G' (.slice Ao o.length co) o∧Bt G' (.slice Ac q.length cc) q:=by
 have hez:=hk.g.z.e
 refine Ai.of_T [(0,_),(1,_),(2,_)] func14 rfl ntmps14 sM rfl fun w0 hs=>?_
 have hf0:=hf
 have hu0:=hu
 refine Wt 2 [] hs rfl<|O_s (Sb hs rfl fun b3 _ hs=>O_s (Sa hs zeroValue35 rfl fun b6 _ hs=>Wp 4 [0,1] hs rfl<|O_s (Sc (rupg_ok hf hu hk.g.z hk.n) hs rfl fun v1 G' H' _ hR hG11 hs=>?_)))
 obtain ⟨rfl,h11⟩:=hR
 obtain ⟨A11,c11,rfl,_⟩:=id h11
 replace hs:=hs.n rfl
 replace hf:=hf.mono hG11
 replace hu:=hu.mono hG11
 refine O_s (Sc (rordV _ _ _ _ _ rfl hk.u h11) hs rfl fun v2 G' H' _ hR hG12 hs=>?_)
 obtain ⟨rfl,hL⟩:=hR
 replace hs:=hs.n rfl
 replace hf:=hf.mono hG12
 replace hu:=hu.mono hG12
 obtain ⟨xs,hxs⟩:∃ z,z=Gk (Ip f nv).length [] (Ip f nv):=⟨_,rfl⟩
 rw [← hxs] at hL
 have hx0:0<xs.length:=List.length_pos_iff.2 (by rw [hxs];exact zM rfl)
 have hpk:pk % xs.length<xs.length:=Nat.mod_lt _ hx0
 have hx7:xs.length≤720:=by rw [hxs];exact gH rfl hk.u
 obtain ⟨A12,c12,rfl⟩:=Be.slice hL
 refine Wp 6 [0] hs rfl<|Zy hs (Dl underlying25 underlying3 (c:=(pk:Int)) rfl Z42<|Wp 2 [] hs rfl<|Zy hs (Es (c:=((pk % xs.length:Nat):Int)) rfl rfl oM oM (Int.natCast_emod _ _).symm<|Zy hs (Bp hL (pk % xs.length) underlying41 sizeOf33 rfl rfl rfl hpk fun p19 c19 hp19 hc19 hR19=>?_)))
 obtain ⟨u19,rfl,hv19⟩:=hR19
 obtain ⟨Av19,cv19,rfl,_⟩:=id hv19
 refine Zy hs (Yg rfl (hp19 0 _ rfl)<|Zy hs (Ba zeroValue35 rfl kG rfl (cs:=[_,_]) rfl<|O_s (Sa hs zeroValue35 rfl fun b8 _ hs=>O_n (Em hs sizeOf35 rfl rfl (vs:=[_,_]) rfl (rfl) sM (cs':=[_,_]) rfl fun _ hs =>Wp 6 [0,0] hs rfl ?_))))
 have hs:=hs.nilRow 3 1
 have hs:=hs.f2.f3.f3.f3
 obtain ⟨Gp0,hGp⟩:=hs.name
 subst hGp
 have hv19_0:=hv19
 refine Zl [2,3,6,8,9] (fun m E w=>∃ (e:Nat) (q:List Int) (vq:Value) (G2:Ghost),e≤f.edges.length∧q.length≤min e 16∧Tm Gp0 G2∧m=f.edges.length-e∧E=⟨[],[(2,.int .u16 (pc:Int)),(3,Vp b3),(6,Vp b6),(8,Vp b8),(9,Vi (e:Int))]⟩∧St ⟨w0,G,Bl []⟩ G2 [.row 3 1 vq q.length (q.map (.int .i64)),.blk b8 35 [.slice Av19 (xs[pk % xs.length]'hpk).length cv19,vq],.blk b3 45 [.slice Ap f.progs.length cp,.slice An f.nodes.length cn,.slice Ae f.edges.length ce,.slice Ar f.routes.length cr,.slice Au nv.length cu],.blk b6 35 [Vn,Vn]] w) rfl (⟨0,[],_,_,by omega,by simp,Tm.refl _,rfl,rfl,hs⟩) fun m E w hI=>?_
 obtain ⟨e,q,vq,G2,hle,hql,hlg0,rfl,rfl,hs⟩:=hI
 have hv19:=hv19_0.mono hlg0
 have hf:=hf0.mono hs.le
 have hu:=hu0.mono hs.le
 refine Wt 8 [0,2,2] hs rfl<|Zy hs (Yc rfl (fun h27=>?_) fun h27=>?_)
 ·
  refine Wp 2 [] hs rfl<|Zg hs rfl (Yc rfl (fun h30=>?_) fun h30=>?_)
  ·
   refine Wp 10 [0] hs rfl<|Zy hs (Xg (c:=((pc / 2 ^ e:Nat):Int)) rfl rfl oM (shr16 _ _ oM)<|Zy hs (Tu (c:=((pc / 2 ^ e % 2:Nat):Int)) rfl rfl sM (kL _)<|Zy hs (Yc rfl (fun h38=>?_) fun h38=>?_)))
   ·
    refine Wp 6 [0,1,1] hs rfl<|O_s (Bw hs underlying33 sizeOf3 zeroValue3 rfl rfl dC dC rfl (cs:=[_]) rfl rfl fun v3 _ hs _=>?_)
    obtain ⟨_,hG42,hl42,hs⟩:=hs.fixRow noM
    replace hlg0:=hlg0.mono hG42
    refine O_s (Bf hs underlying33 Ko rfl dC rfl rfl (hl42) (Fh rfl) oM Lk fun v4 _ hs =>Wp 1 [1] hs rfl<|O_n (Sd hs.f1 rfl (hs.f1.rowOne 1 rfl) fun _ hs=>Wp 3 [5,2,3,6,8,9] hs rfl<|Zy hs (Ya (s:=((e+1:Nat):Int)) rfl<|Wp 1 [] hs rfl ?_)))
    have hs:=hs.f3.f3.f2.f3
    refine Zx [2,3,6,8,9] rfl ⟨e+1,q++[((e:Nat):Int)],v4,_,by omega,by simp;omega,hlg0,rfl,rfl,Bz (hs.weak hs.le (Cj _) (Ea [_,_,_,_] _)) sM⟩
   refine Wp 5 [0] hs rfl<|Zy hs (Ya (s:=((e+1:Nat):Int)) rfl<|Wp 1 [] hs rfl ?_)
   have hs:=hs.f3.f3.f3.f3
   refine Zx [2,3,6,8,9] rfl ⟨e+1,q,vq,_,by omega,by omega,hlg0,rfl,rfl,hs.weak hs.le (Cj _) (Ea [_,_,_,_] _)⟩
  refine Wp 4 [0] hs rfl ?_
  have hsN:=hs.fixRow noM
  clear hs
  obtain ⟨_,hG_hqr,hqr,hs⟩:=hsN
  replace hv19:=hv19.mono hG_hqr
  have hqI:Bt _ _ q:=Pp hqr rfl rfl
  clear hqr
  obtain ⟨Aq,cq,rfl,_⟩:=id hqI
  refine Wu 3 [0] hs rfl<|O_n (Em hs.f2 sizeOf35 rfl rfl (vs:=[_,_]) rfl (rfl) sM (cs':=[_,_]) rfl fun _ hs =>Wp 1 [0] hs rfl<|Ah<|Zz results14 (Rb 0 hs rfl rF) ?_)
  exact ⟨_,[],hs.done,rfl,_,_,_,_,_,q,rfl,by rw [← hxs];exact List.getElem_mem hpk,by omega,hv19,hqI⟩
 refine Wp 7 [0] hs rfl ?_
 have hsN:=hs.fixRow noM
 clear hs
 obtain ⟨_,hG_hqr,hqr,hs⟩:=hsN
 replace hv19:=hv19.mono hG_hqr
 have hqI:Bt _ _ q:=Pp hqr rfl rfl
 clear hqr
 obtain ⟨Aq,cq,rfl,_⟩:=id hqI
 refine Wu 3 [0] hs rfl<|O_n (Em hs.f2 sizeOf35 rfl rfl (vs:=[_,_]) rfl (rfl) sM (cs':=[_,_]) rfl fun _ hs =>Wp 1 [0] hs rfl<|Ah<|Zz results14 (Rb 0 hs rfl rF) ?_)
 exact ⟨_,[],hs.done,rfl,_,_,_,_,_,q,rfl,by rw [← hxs];exact List.getElem_mem hpk,by omega,hv19,hqI⟩
theorem bK {G:Ghost} {Ao1 Ac1 Ao2 Ac2:Option Addr} {co1 cc1 co2 cc2:Nat} {o1 c1 o2 c2:List Int} (h1:Bt G (.slice Ao1 o1.length co1) o1) (h2:Bt G (.slice Ac1 c1.length cc1) c1) (h3:Bt G (.slice Ao2 o2.length co2) o2) (h4:Bt G (.slice Ac2 c2.length cc2) c2) (hl1:o1.length≤1000) (hl2:c1.length≤1000) (he:o1=o2) (hc:c1=c2) :
    Ai prog 20 [.agg #[.slice Ao1 o1.length co1,.slice Ac1 c1.length cc1],.agg #[.slice Ao2 o2.length co2,.slice Ac2 c2.length cc2]] G [] fun r _ H'=>H'=[]∧r=Vt:=(rsam_ok h1 h2 h3 h4 hl1 hl2).mono fun r G' H' _ h=>⟨h.1,h.2.trans (by rw [decide_eq_true he,decide_eq_true hc];rfl)⟩
theorem tI {G:Ghost} {Aa Ab:Option Addr} {ca cb:Nat} {a b:List (Int×Int)} (ha:kT G (.slice Aa a.length ca) a) (hb:kT G (.slice Ab b.length cb) b) (hal:a.length≤1000) (he:a=b) :
        Ai prog 19 [.slice Aa a.length ca,.slice Ab b.length cb] G [] fun r _ H'=>H'=[]∧r=Vt:=(zX ha hb hal).mono fun r G' H' _ h=>⟨h.1,h.2.trans (by rw [decide_eq_true he])⟩
theorem Pa {G:Ghost}:Bt G (Vn) []:=Sl.nil _ _
theorem san31_ok {G:Ghost} (hT:Tab G) :
  Ai prog 10 [] G [] fun r _ H'=>H'=[]∧r=Vt:=by
 refine Ai.of_T [] func10 rfl ntmps10 sM rfl fun w0 hs=>?_
 have hT0:=hT
 refine Wt 6 [0] hs rfl<|O_s (Sc (two_ok) hs rfl fun v1 G' H' _ hR hG16 hs=>?_)
 obtain ⟨rfl,Ap,An,Ae,Ar,cp,cn,ce,cr,Au,cu,rfl,hf,hu⟩:=hR
 replace hs:=hs.n rfl
 replace hT:=hT.mono hG16
 refine O_s (Sa hs zeroValue45 rfl fun b1 _ hs=>O_n (Sg hs rfl (rfl) fun _ hs=>Wp 4 [0,0] hs rfl<|O_s (Se hs zeroValue4 rfl fun v2 _ hs _=>?_)))
 have hsN:=hs.fixRow noM
 clear hs
 obtain ⟨_,hG19,hl19,hs⟩:=hsN
 replace hT:=hT.mono hG19
 replace hf:=hf.mono hG19
 replace hu:=hu.mono hG19
 obtain ⟨A19,c19,rfl,_⟩:=id hl19
 refine O_s (Se hs zeroValue4 rfl fun v3 _ hs _=>?_)
 have hsN:=hs.fixRow noM
 clear hs
 obtain ⟨_,hG20,hl20,hs⟩:=hsN
 replace hT:=hT.mono hG20
 replace hf:=hf.mono hG20
 replace hu:=hu.mono hG20
 replace hl19:=hl19.mono hG20
 obtain ⟨A20,c20,rfl,_⟩:=id hl20
 refine O_s (Se hs zeroValue64 rfl fun v4 _ hs _=>?_)
 have hsN:=hs.fixRow noM
 clear hs
 obtain ⟨_,hG21,hl21,hs⟩:=hsN
 replace hT:=hT.mono hG21
 replace hf:=hf.mono hG21
 replace hu:=hu.mono hG21
 replace hl19:=hl19.mono hG21
 replace hl20:=hl20.mono hG21
 obtain ⟨A21,c21,rfl,_⟩:=id hl21
 have hS22:gK _ (.slice A21 2 c21) s2a:=Pr hl21 hl19 hl20
 refine O_s (Sc (gD (s:=s2a) (u:=[0]) hf hu hS22 kM hT (Ps rfl rfl) bJ) hs rfl fun v5 G' H' _ hR hG22 hs=>?_)
 obtain ⟨rfl,vo,vc,o2,rfl,hbs,hoN2,hcI2⟩:=hR
 replace hs:=hs.n rfl
 replace hT:=hT.mono hG22
 replace hf:=hf.mono hG22
 replace hu:=hu.mono hG22
 rw [f2_a] at hbs
 obtain ⟨rfl,hcl⟩:[0,1]=o2∧[]=Kr Oy Vu s2a [0] o2:=by injection hbs with h;injection h with h1 h2;exact ⟨h1,h2⟩
 rw [← hcl] at hcI2
 obtain ⟨Ao2,co2,rfl,_⟩:=id hoN2
 obtain ⟨Ac2,cc2,rfl,_⟩:=id hcI2
 clear hcl hbs
 refine Wp 3 [] hs rfl<|O_s (Sa hs zeroValue35 rfl fun b2 _ hs=>O_n (Sg hs rfl (rfl) fun _ hs=>Wp 5 [0,1] hs rfl<|O_s (Se hs zeroValue4 rfl fun v6 _ hs _=>?_)))
 have hsN:=hs.fixRow noM
 clear hs
 obtain ⟨_,hG27,hl27,hs⟩:=hsN
 replace hT:=hT.mono hG27
 replace hf:=hf.mono hG27
 replace hu:=hu.mono hG27
 replace hoN2:=hoN2.mono hG27
 replace hcI2:=hcI2.mono hG27
 obtain ⟨A27,c27,rfl,_⟩:=id hl27
 refine O_s (Se hs zeroValue4 rfl fun v7 _ hs _=>?_)
 have hsN:=hs.fixRow noM
 clear hs
 obtain ⟨_,hG28,hl28,hs⟩:=hsN
 replace hT:=hT.mono hG28
 replace hf:=hf.mono hG28
 replace hu:=hu.mono hG28
 replace hoN2:=hoN2.mono hG28
 replace hcI2:=hcI2.mono hG28
 replace hl27:=hl27.mono hG28
 obtain ⟨A28,c28,rfl,_⟩:=id hl28
 refine O_s (Se hs zeroValue64 rfl fun v8 _ hs _=>?_)
 have hsN:=hs.fixRow noM
 clear hs
 obtain ⟨_,hG29,hl29,hs⟩:=hsN
 replace hT:=hT.mono hG29
 replace hf:=hf.mono hG29
 replace hu:=hu.mono hG29
 replace hoN2:=hoN2.mono hG29
 replace hcI2:=hcI2.mono hG29
 replace hl27:=hl27.mono hG29
 replace hl28:=hl28.mono hG29
 obtain ⟨A29,c29,rfl,_⟩:=id hl29
 have hS30:gK _ (.slice A29 2 c29) s2b:=Pr hl29 hl27 hl28
 refine O_s (Sc (gD (s:=s2b) (u:=[0]) hf hu hS30 kM hT (Ps rfl rfl) bJ) hs rfl fun v9 G' H' _ hR hG30 hs=>?_)
 obtain ⟨rfl,vo,vc,o4,rfl,hbs,hoN4,hcI4⟩:=hR
 replace hs:=hs.n rfl
 replace hT:=hT.mono hG30
 replace hf:=hf.mono hG30
 replace hu:=hu.mono hG30
 replace hoN2:=hoN2.mono hG30
 replace hcI2:=hcI2.mono hG30
 rw [f2_b] at hbs
 obtain ⟨rfl,hcl⟩:[1,0]=o4∧[]=Kr Oy Vu s2b [0] o4:=by injection hbs with h;injection h with h1 h2;exact ⟨h1,h2⟩
 rw [← hcl] at hcI4
 obtain ⟨Ao4,co4,rfl,_⟩:=id hoN4
 obtain ⟨Ac4,cc4,rfl,_⟩:=id hcI4
 clear hcl hbs
 refine Wp 3 [] hs rfl<|O_s (Sa hs zeroValue35 rfl fun b4 _ hs=>O_n (Sg hs rfl (rfl) fun _ hs=>Wp 5 [5,1,2,3,4,5,2] hs rfl<|O_s (Se hs zeroValue4 rfl fun v10 _ hs _=>?_)))
 have hsN:=hs.fixRow noM
 clear hs
 obtain ⟨_,hG35,hl35,hs⟩:=hsN
 replace hT:=hT.mono hG35
 replace hf:=hf.mono hG35
 replace hu:=hu.mono hG35
 replace hoN2:=hoN2.mono hG35
 replace hcI2:=hcI2.mono hG35
 replace hoN4:=hoN4.mono hG35
 replace hcI4:=hcI4.mono hG35
 obtain ⟨A35,c35,rfl,_⟩:=id hl35
 refine O_s (Se hs zeroValue4 rfl fun v11 _ hs _=>?_)
 have hsN:=hs.fixRow noM
 clear hs
 obtain ⟨_,hG36,hl36,hs⟩:=hsN
 replace hT:=hT.mono hG36
 replace hf:=hf.mono hG36
 replace hu:=hu.mono hG36
 replace hoN2:=hoN2.mono hG36
 replace hcI2:=hcI2.mono hG36
 replace hoN4:=hoN4.mono hG36
 replace hcI4:=hcI4.mono hG36
 replace hl35:=hl35.mono hG36
 obtain ⟨A36,c36,rfl,_⟩:=id hl36
 refine O_s (Se hs zeroValue64 rfl fun v12 _ hs _=>?_)
 have hsN:=hs.fixRow noM
 clear hs
 obtain ⟨_,hG37,hl37,hs⟩:=hsN
 replace hT:=hT.mono hG37
 replace hf:=hf.mono hG37
 replace hu:=hu.mono hG37
 replace hoN2:=hoN2.mono hG37
 replace hcI2:=hcI2.mono hG37
 replace hoN4:=hoN4.mono hG37
 replace hcI4:=hcI4.mono hG37
 replace hl35:=hl35.mono hG37
 replace hl36:=hl36.mono hG37
 obtain ⟨A37,c37,rfl,_⟩:=id hl37
 have hS38:gK _ (.slice A37 2 c37) tN:=Pr hl37 hl35 hl36
 refine O_s (Sc (gD (s:=tN) (u:=[0]) hf hu hS38 kM hT (Ps rfl rfl) bJ) hs rfl fun v13 G' H' _ hR hG38 hs=>?_)
 obtain ⟨rfl,vo,vc,o6,rfl,hbs,hoN6,hcI6⟩:=hR
 replace hs:=hs.n rfl
 replace hT:=hT.mono hG38
 replace hf:=hf.mono hG38
 replace hu:=hu.mono hG38
 replace hoN2:=hoN2.mono hG38
 replace hcI2:=hcI2.mono hG38
 replace hoN4:=hoN4.mono hG38
 replace hcI4:=hcI4.mono hG38
 rw [f2_x] at hbs
 obtain ⟨rfl,hcl⟩:[0,1]=o6∧[0]=Kr Oy Vu tN [0] o6:=by injection hbs with h;injection h with h1 h2;exact ⟨h1,h2⟩
 rw [← hcl] at hcI6
 obtain ⟨Ao6,co6,rfl,_⟩:=id hoN6
 obtain ⟨Ac6,cc6,rfl,_⟩:=id hcI6
 clear hcl hbs
 refine Wp 3 [] hs rfl<|O_s (Sa hs zeroValue35 rfl fun b6 _ hs=>O_n (Sg hs rfl (rfl) fun _ hs=>Wp 5 [0,3] hs rfl<|O_s (Se hs zeroValue4 rfl fun v14 _ hs _=>?_)))
 have hsN:=hs.fixRow noM
 clear hs
 obtain ⟨_,hG43,hl43,hs⟩:=hsN
 replace hT:=hT.mono hG43
 replace hf:=hf.mono hG43
 replace hu:=hu.mono hG43
 replace hoN2:=hoN2.mono hG43
 replace hcI2:=hcI2.mono hG43
 replace hoN4:=hoN4.mono hG43
 replace hcI4:=hcI4.mono hG43
 replace hoN6:=hoN6.mono hG43
 replace hcI6:=hcI6.mono hG43
 obtain ⟨A43,c43,rfl,_⟩:=id hl43
 refine O_s (Se hs zeroValue4 rfl fun v15 _ hs _=>?_)
 have hsN:=hs.fixRow noM
 clear hs
 obtain ⟨_,hG44,hl44,hs⟩:=hsN
 replace hT:=hT.mono hG44
 replace hf:=hf.mono hG44
 replace hu:=hu.mono hG44
 replace hoN2:=hoN2.mono hG44
 replace hcI2:=hcI2.mono hG44
 replace hoN4:=hoN4.mono hG44
 replace hcI4:=hcI4.mono hG44
 replace hoN6:=hoN6.mono hG44
 replace hcI6:=hcI6.mono hG44
 replace hl43:=hl43.mono hG44
 obtain ⟨A44,c44,rfl,_⟩:=id hl44
 refine O_s (Se hs zeroValue64 rfl fun v16 _ hs _=>?_)
 have hsN:=hs.fixRow noM
 clear hs
 obtain ⟨_,hG45,hl45,hs⟩:=hsN
 replace hT:=hT.mono hG45
 replace hf:=hf.mono hG45
 replace hu:=hu.mono hG45
 replace hoN2:=hoN2.mono hG45
 replace hcI2:=hcI2.mono hG45
 replace hoN4:=hoN4.mono hG45
 replace hcI4:=hcI4.mono hG45
 replace hoN6:=hoN6.mono hG45
 replace hcI6:=hcI6.mono hG45
 replace hl43:=hl43.mono hG45
 replace hl44:=hl44.mono hG45
 obtain ⟨A45,c45,rfl,_⟩:=id hl45
 refine Wp 1 [0] hs rfl ?_
 have hS47:gK _ (.slice A45 2 c45) tN:=Pr hl45 hl43 hl44
 refine O_s (Sc (Wv (s:=tN) (u:=[0]) (o:=[0,1]) (cl:=[0]) hf hu hS47 hoN6 hcI6 bJ dC dC kM hT (Ps rfl rfl)) hs rfl fun v17 G' H' _ hR hG47 hs=>?_)
 obtain ⟨rfl,n47,e47,rfl,h0,h310,h1,hn⟩:=hR
 replace hs:=hs.n rfl
 replace hT:=hT.mono hG47
 replace hf:=hf.mono hG47
 replace hu:=hu.mono hG47
 replace hoN2:=hoN2.mono hG47
 replace hcI2:=hcI2.mono hG47
 replace hoN4:=hoN4.mono hG47
 replace hcI4:=hcI4.mono hG47
 replace hoN6:=hoN6.mono hG47
 replace hcI6:=hcI6.mono hG47
 obtain rfl:e47=0:=h0.2 ⟨f2_f,f2_k⟩
 obtain rfl:n47=3:=hn rfl
 clear h0 h310 h1 hn
 refine Wp 9 [9,1,2,3,4,5,6,7,8,9,3] hs rfl<|O_s (Se hs zeroValue4 rfl fun v18 _ hs _=>?_)
 have hsN:=hs.fixRow noM
 clear hs
 obtain ⟨_,hG52,hl52,hs⟩:=hsN
 replace hT:=hT.mono hG52
 replace hf:=hf.mono hG52
 replace hu:=hu.mono hG52
 replace hoN2:=hoN2.mono hG52
 replace hcI2:=hcI2.mono hG52
 replace hoN4:=hoN4.mono hG52
 replace hcI4:=hcI4.mono hG52
 replace hoN6:=hoN6.mono hG52
 replace hcI6:=hcI6.mono hG52
 obtain ⟨A52,c52,rfl,_⟩:=id hl52
 refine O_s (Se hs zeroValue4 rfl fun v19 _ hs _=>?_)
 have hsN:=hs.fixRow noM
 clear hs
 obtain ⟨_,hG53,hl53,hs⟩:=hsN
 replace hT:=hT.mono hG53
 replace hf:=hf.mono hG53
 replace hu:=hu.mono hG53
 replace hoN2:=hoN2.mono hG53
 replace hcI2:=hcI2.mono hG53
 replace hoN4:=hoN4.mono hG53
 replace hcI4:=hcI4.mono hG53
 replace hoN6:=hoN6.mono hG53
 replace hcI6:=hcI6.mono hG53
 replace hl52:=hl52.mono hG53
 obtain ⟨A53,c53,rfl,_⟩:=id hl53
 refine O_s (Se hs zeroValue64 rfl fun v20 _ hs _=>?_)
 have hsN:=hs.fixRow noM
 clear hs
 obtain ⟨_,hG54,hl54,hs⟩:=hsN
 replace hT:=hT.mono hG54
 replace hf:=hf.mono hG54
 replace hu:=hu.mono hG54
 replace hoN2:=hoN2.mono hG54
 replace hcI2:=hcI2.mono hG54
 replace hoN4:=hoN4.mono hG54
 replace hcI4:=hcI4.mono hG54
 replace hoN6:=hoN6.mono hG54
 replace hcI6:=hcI6.mono hG54
 replace hl52:=hl52.mono hG54
 replace hl53:=hl53.mono hG54
 obtain ⟨A54,c54,rfl,_⟩:=id hl54
 refine O_s (Se hs zeroValue3 rfl fun v21 _ hs _=>?_)
 have hsN:=hs.fixRow noM
 clear hs
 obtain ⟨_,hG55,hl55,hs⟩:=hsN
 replace hT:=hT.mono hG55
 replace hf:=hf.mono hG55
 replace hu:=hu.mono hG55
 replace hoN2:=hoN2.mono hG55
 replace hcI2:=hcI2.mono hG55
 replace hoN4:=hoN4.mono hG55
 replace hcI4:=hcI4.mono hG55
 replace hoN6:=hoN6.mono hG55
 replace hcI6:=hcI6.mono hG55
 replace hl52:=hl52.mono hG55
 replace hl53:=hl53.mono hG55
 replace hl54:=hl54.mono hG55
 obtain ⟨A55,c55,rfl,_⟩:=id hl55
 refine Zy hs (Ba zeroValue35 rfl kG rfl (cs:=[_,_]) rfl ?_)
 have hS57:gK _ (.slice A54 2 c54) tN:=Pr hl54 hl52 hl53
 refine O_s (Sc (Wv (s:=tN) (u:=[0]) (o:=[0,1]) (cl:=[]) hf hu hS57 (show Cc _ _ [0,1] from hl55) Pa bJ dC dC kM hT (Ps rfl rfl)) hs rfl fun v22 G' H' _ hR hG57 hs=>?_)
 obtain ⟨rfl,n57,e57,rfl,h0,h310,h1,hn⟩:=hR
 replace hs:=hs.n rfl
 replace hT:=hT.mono hG57
 replace hf:=hf.mono hG57
 replace hu:=hu.mono hG57
 replace hoN2:=hoN2.mono hG57
 replace hcI2:=hcI2.mono hG57
 replace hoN4:=hoN4.mono hG57
 replace hcI4:=hcI4.mono hG57
 replace hoN6:=hoN6.mono hG57
 replace hcI6:=hcI6.mono hG57
 obtain rfl:e57=310:=h310.2 ⟨f2_g,f2_l⟩
 clear h0 h310 h1 hn
 refine Wp 9 [0,3] hs rfl<|O_s (Se hs zeroValue4 rfl fun v23 _ hs _=>?_)
 have hsN:=hs.fixRow noM
 clear hs
 obtain ⟨_,hG62,hl62,hs⟩:=hsN
 replace hT:=hT.mono hG62
 replace hf:=hf.mono hG62
 replace hu:=hu.mono hG62
 replace hoN2:=hoN2.mono hG62
 replace hcI2:=hcI2.mono hG62
 replace hoN4:=hoN4.mono hG62
 replace hcI4:=hcI4.mono hG62
 replace hoN6:=hoN6.mono hG62
 replace hcI6:=hcI6.mono hG62
 obtain ⟨A62,c62,rfl,_⟩:=id hl62
 refine O_s (Se hs zeroValue4 rfl fun v24 _ hs _=>?_)
 have hsN:=hs.fixRow noM
 clear hs
 obtain ⟨_,hG63,hl63,hs⟩:=hsN
 replace hT:=hT.mono hG63
 replace hf:=hf.mono hG63
 replace hu:=hu.mono hG63
 replace hoN2:=hoN2.mono hG63
 replace hcI2:=hcI2.mono hG63
 replace hoN4:=hoN4.mono hG63
 replace hcI4:=hcI4.mono hG63
 replace hoN6:=hoN6.mono hG63
 replace hcI6:=hcI6.mono hG63
 replace hl62:=hl62.mono hG63
 obtain ⟨A63,c63,rfl,_⟩:=id hl63
 refine O_s (Se hs zeroValue64 rfl fun v25 _ hs _=>?_)
 have hsN:=hs.fixRow noM
 clear hs
 obtain ⟨_,hG64,hl64,hs⟩:=hsN
 replace hT:=hT.mono hG64
 replace hf:=hf.mono hG64
 replace hu:=hu.mono hG64
 replace hoN2:=hoN2.mono hG64
 replace hcI2:=hcI2.mono hG64
 replace hoN4:=hoN4.mono hG64
 replace hcI4:=hcI4.mono hG64
 replace hoN6:=hoN6.mono hG64
 replace hcI6:=hcI6.mono hG64
 replace hl62:=hl62.mono hG64
 replace hl63:=hl63.mono hG64
 obtain ⟨A64,c64,rfl,_⟩:=id hl64
 refine O_s (Se hs zeroValue3 rfl fun v26 _ hs _=>?_)
 have hsN:=hs.fixRow noM
 clear hs
 obtain ⟨_,hG65,hl65,hs⟩:=hsN
 replace hT:=hT.mono hG65
 replace hf:=hf.mono hG65
 replace hu:=hu.mono hG65
 replace hoN2:=hoN2.mono hG65
 replace hcI2:=hcI2.mono hG65
 replace hoN4:=hoN4.mono hG65
 replace hcI4:=hcI4.mono hG65
 replace hoN6:=hoN6.mono hG65
 replace hcI6:=hcI6.mono hG65
 replace hl62:=hl62.mono hG65
 replace hl63:=hl63.mono hG65
 replace hl64:=hl64.mono hG65
 obtain ⟨A65,c65,rfl,_⟩:=id hl65
 refine Zy hs (Ba zeroValue35 rfl kG rfl (cs:=[_,_]) rfl ?_)
 have hS67:gK _ (.slice A64 2 c64) tN:=Pr hl64 hl62 hl63
 refine O_s (Sc (Wv (s:=tN) (u:=[0]) (o:=[0]) (cl:=[]) hf hu hS67 (show Cc _ _ [0] from hl65) Pa bJ dC dC kM hT (Ps rfl rfl)) hs rfl fun v27 G' H' _ hR hG67 hs=>?_)
 obtain ⟨rfl,n67,e67,rfl,h0,h310,h1,hn⟩:=hR
 replace hs:=hs.n rfl
 replace hT:=hT.mono hG67
 replace hf:=hf.mono hG67
 replace hu:=hu.mono hG67
 replace hoN2:=hoN2.mono hG67
 replace hcI2:=hcI2.mono hG67
 replace hoN4:=hoN4.mono hG67
 replace hcI4:=hcI4.mono hG67
 replace hoN6:=hoN6.mono hG67
 replace hcI6:=hcI6.mono hG67
 obtain rfl:e67=1:=h1.2 f2_h
 clear h0 h310 h1 hn
 refine Wp 10 [11,1,2,3,4,5,6,7,8,9,11,13,3,2] hs rfl<|O_s (Sc (qG (u:=[0]) (o:=[0,1]) (cl:=[]) hf hu hoN2 hcI2 bJ dC dC kM hT f2_g dC) hs rfl fun v28 G' H' _ hR hG73 hs=>?_)
 obtain ⟨rfl,vq,q,rfl,hEd,hsq,hqn,hqm⟩:=hR
 replace hs:=hs.n rfl
 replace hT:=hT.mono hG73
 replace hf:=hf.mono hG73
 replace hu:=hu.mono hG73
 replace hoN2:=hoN2.mono hG73
 replace hcI2:=hcI2.mono hG73
 replace hoN4:=hoN4.mono hG73
 replace hcI4:=hcI4.mono hG73
 replace hoN6:=hoN6.mono hG73
 replace hcI6:=hcI6.mono hG73
 obtain rfl:=f2_n hsq hqn hqm
 obtain ⟨A73,c73,rfl⟩:=Be.slice hEd
 clear hsq hqn hqm
 refine Wp 12 [0,2] hs rfl<|Cl 78 rfl rfl (Se hs zeroValue3 rfl fun v29 _ hs _=>?_)
 have hsN:=hs.fixRow noM
 clear hs
 obtain ⟨_,hG80,hl80,hs⟩:=hsN
 replace hT:=hT.mono hG80
 replace hf:=hf.mono hG80
 replace hu:=hu.mono hG80
 replace hoN2:=hoN2.mono hG80
 replace hcI2:=hcI2.mono hG80
 replace hoN4:=hoN4.mono hG80
 replace hcI4:=hcI4.mono hG80
 replace hoN6:=hoN6.mono hG80
 replace hcI6:=hcI6.mono hG80
 replace hEd:=hEd.mono hG80
 obtain ⟨A80,c80,rfl,_⟩:=id hl80
 refine Zg hs rfl (Ba zeroValue35 rfl kG rfl (cs:=[_,_]) rfl<|Cl 78 rfl rfl (Sc (bK (o1:=[0,1]) (c1:=[]) (o2:=[0,1]) (c2:=[]) (Qf hoN2) hcI2 (show Bt _ _ [0,1] from hl80) Pa dC dC rfl rfl) hs rfl fun v30 G' H' _ hR hG82 hs=>?_))
 obtain ⟨rfl,rfl⟩:=hR
 replace hs:=hs.n rfl
 replace hT:=hT.mono hG82
 replace hf:=hf.mono hG82
 replace hu:=hu.mono hG82
 replace hoN4:=hoN4.mono hG82
 replace hcI4:=hcI4.mono hG82
 replace hoN6:=hoN6.mono hG82
 replace hcI6:=hcI6.mono hG82
 replace hEd:=hEd.mono hG82
 refine Wp 7 [1] hs rfl<|Cl 88 rfl rfl (Se hs zeroValue3 rfl fun v31 _ hs _=>?_)
 have hsN:=hs.fixRow noM
 clear hs
 obtain ⟨_,hG90,hl90,hs⟩:=hsN
 replace hT:=hT.mono hG90
 replace hf:=hf.mono hG90
 replace hu:=hu.mono hG90
 replace hoN4:=hoN4.mono hG90
 replace hcI4:=hcI4.mono hG90
 replace hoN6:=hoN6.mono hG90
 replace hcI6:=hcI6.mono hG90
 replace hEd:=hEd.mono hG90
 obtain ⟨A90,c90,rfl,_⟩:=id hl90
 refine Zg hs rfl (Ba zeroValue35 rfl kG rfl (cs:=[_,_]) rfl<|Cl 88 rfl rfl (Sc (bK (o1:=[1,0]) (c1:=[]) (o2:=[1,0]) (c2:=[]) (Qf hoN4) hcI4 (show Bt _ _ [1,0] from hl90) Pa dC dC rfl rfl) hs rfl fun v32 G' H' _ hR hG92 hs=>?_))
 obtain ⟨rfl,rfl⟩:=hR
 replace hs:=hs.n rfl
 replace hT:=hT.mono hG92
 replace hf:=hf.mono hG92
 replace hu:=hu.mono hG92
 replace hoN6:=hoN6.mono hG92
 replace hcI6:=hcI6.mono hG92
 replace hEd:=hEd.mono hG92
 refine Wp 7 [0] hs rfl<|Cl 98 rfl rfl (Se hs zeroValue3 rfl fun v33 _ hs _=>?_)
 have hsN:=hs.fixRow noM
 clear hs
 obtain ⟨_,hG100,hl100,hs⟩:=hsN
 replace hT:=hT.mono hG100
 replace hf:=hf.mono hG100
 replace hu:=hu.mono hG100
 replace hoN6:=hoN6.mono hG100
 replace hcI6:=hcI6.mono hG100
 replace hEd:=hEd.mono hG100
 obtain ⟨A100,c100,rfl,_⟩:=id hl100
 refine Cl 98 rfl rfl (Se hs zeroValue3 rfl fun v34 _ hs _=>?_)
 have hsN:=hs.fixRow noM
 clear hs
 obtain ⟨_,hG101,hl101,hs⟩:=hsN
 replace hT:=hT.mono hG101
 replace hf:=hf.mono hG101
 replace hu:=hu.mono hG101
 replace hoN6:=hoN6.mono hG101
 replace hcI6:=hcI6.mono hG101
 replace hEd:=hEd.mono hG101
 replace hl100:=hl100.mono hG101
 obtain ⟨A101,c101,rfl,_⟩:=id hl101
 refine Zg hs rfl (Ba zeroValue35 rfl kG rfl (cs:=[_,_]) rfl<|Cl 98 rfl rfl (Sc (bK (o1:=[0,1]) (c1:=[0]) (o2:=[0,1]) (c2:=[0]) (Qf hoN6) hcI6 (show Bt _ _ [0,1] from hl100) (show Bt _ _ [0] from hl101) dC dC rfl rfl) hs rfl fun v35 G' H' _ hR hG103 hs=>?_))
 obtain ⟨rfl,rfl⟩:=hR
 replace hs:=hs.n rfl
 replace hT:=hT.mono hG103
 replace hf:=hf.mono hG103
 replace hu:=hu.mono hG103
 replace hEd:=hEd.mono hG103
 refine Wp 23 [] hs rfl<|Zg hs rfl (Ct underlying70 sizeOf3 zeroValue70 rfl rfl (cs:=[_,_]) rfl<|Zg hs rfl (Ct underlying70 sizeOf3 zeroValue70 rfl rfl (cs:=[_,_]) rfl<|Zg hs rfl (Ct underlying70 sizeOf3 zeroValue70 rfl rfl (cs:=[_,_]) rfl<|Cl 125 rfl rfl (Se hs zeroValue70 rfl fun v36 _ hs _=>?_))))
 have hsN:=hs.fixRow noM
 clear hs
 obtain ⟨_,hG130,hl130,hs⟩:=hsN
 replace hT:=hT.mono hG130
 replace hf:=hf.mono hG130
 replace hu:=hu.mono hG130
 replace hEd:=hEd.mono hG130
 obtain ⟨A130,c130,rfl,_⟩:=id hl130
 refine Cl 125 rfl rfl (Sc (tI (a:=[(0,0),(1,0),(1,1)]) (b:=[(0,0),(1,0),(1,1)]) hEd (fI (q:=[(0,0),(1,0),(1,1)]) hl130) dC rfl) hs rfl fun v37 G' H' _ hR hG131 hs=>?_)
 obtain ⟨rfl,rfl⟩:=hR
 replace hs:=hs.n rfl
 replace hT:=hT.mono hG131
 replace hf:=hf.mono hG131
 replace hu:=hu.mono hG131
 refine Wp 3 [3] hs rfl<|Cl 133 rfl rfl (Sc (plvn_ok (f:=Oy) hf hu kM hT) hs rfl fun v38 G' H' _ hR hG135 hs=>?_)
 obtain ⟨rfl,rfl⟩:=hR
 replace hs:=hs.n rfl
 replace hT:=hT.mono hG135
 refine Wp 3 [] hs rfl<|Zg hs rfl (Ba zeroValue45 rfl PL45 rfl (cs:=[_,_,_,_,_]) rfl<|Cl 138 rfl rfl (Sc (plvb_ok (f:=noF) (nv:=[]) ⟨Be.nil,Be.nil,Be.nil,Be.nil⟩ Pa noF_ok hT (by rw [noF_c];decide)) hs rfl fun v39 G' H' _ hR hG140 hs=>?_))
 obtain ⟨rfl,rfl⟩:=hR
 replace hs:=hs.n rfl
 rw [noF_c]
 refine Wp 4 [1,0] hs rfl<|Ah<|Zz results10 rfl ?_
 exact ⟨_,[],hs.done,rfl,rfl⟩
theorem used_ex (f:Cg):∃ u,Ja f u:=by
  refine ⟨((List.range (f.edges.length+1)).filter fun i:Nat=>decide ((i:Int)∈Wa f)).map fun i:Nat=>(i:Int),?_,fun x=>?_⟩
  · exact List.Pairwise.map _ (fun a b h=>by omega) (List.Pairwise.filter _ List.pairwise_lt_range)
  · rw [List.mem_map]
    constructor
    · rintro ⟨i,hi,rfl⟩;exact of_decide_eq_true (List.mem_filter.1 hi).2
    · intro hx
      have hx':=hx
      unfold Wa at hx'
      obtain ⟨e,_,rfl⟩:=List.mem_map.1 hx'
      exact ⟨_,List.mem_filter.2 ⟨List.mem_range.2 (by have:=nZ e f.edges;omega),decide_eq_true hx⟩,rfl⟩
end Go.Proofs.YtngdgnolkilheaaGreatDoor
