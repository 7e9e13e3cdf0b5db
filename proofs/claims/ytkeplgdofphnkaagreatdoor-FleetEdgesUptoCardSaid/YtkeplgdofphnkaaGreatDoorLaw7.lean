/- The walk of the law FleetEdges: the call returns true, whatever its arguments read, and changes nothing. -/
import Derived.Test.YtkeplgdofphnkaaGreatDoorMI
set_option maxHeartbeats 4000000
set_option maxRecDepth 10000
set_option linter.unusedVariables false
set_option linter.unusedSimpArgs false
set_option linter.unusedSectionVars false
namespace Go.Ex
open Go Go.RowKit
section
variable {x:Cx} {W:World→Prop} {E:Env} {K:Value→Prop} {d:Option Tmp} {ty:TypeId} {pos:String} {aft:Array Edge} {g:Option (Nat×Bool)}
theorem Y_sliceS {α:Type} {k:Nat} {R:Ghost→List Value→α→Prop} {G:Ghost} {v:Value} {a:List α} {o:Operand} {lo hi:Option Operand} {t e:TypeId} (hx:LstR k R G v a) (l h:Nat) (hu:x.P.underlying t=some (.slice e)) (hs:∀ w,(sizeOf e).run x.P w=.ok k w)
  (h1:ev E o=some v) (hlo:bnd E lo 0 l) (hhi:bnd E hi a.length h) (hl:l≤h) (hh:h≤a.length)
  (kk:∀ A n' c,n'=((a.drop l).take (h-l)).length→LstR k R G (.slice A n' c) ((a.drop l).take (h-l))→K (.slice A n' c)):Y x W ⟨d,.slice t o lo hi none,ty,pos,aft,g⟩ E K:=by
 obtain ⟨cs,hS,h2,h3⟩:=hx
 refine Y_slice l h hu hs hS h1 hlo hhi hl hh fun v' hv=>?_
 have hL:=LstR.sub hh hl h2 h3 hv
 obtain ⟨A,c,rfl⟩:=LstR.slice hL
 exact kk A _ c rfl hL
end
end Go.Ex
namespace Go.Ex
open Go Go.RowKit Go.ChangeShapes Go.WideShapes Go.ChangeAt
section
variable {H:Type} {enc:TypeId×Value→H} {P:Program}
theorem pair_cells {W:World} {t e:TypeId} {k:IntKind} {fuel:Nat} {cs:List Value} {x:DataW H×List MemPlace} (ht:P.underlying t=some (.array 2 e)) (he:P.underlying e=some (.int k)) (hc1:P.cellsOf e=1) (hl:cs.length=2)
  (h:DataW.trod enc P W 0 (fun _=>true) true fuel t cs=some x):∃ za zb:Int,cs=[.int k za,.int k zb]∧(Lit.int k za).wf=true∧(Lit.int k zb).wf=true:=by
 obtain ⟨xs,m,_,_,_,hn,hx⟩:=DataW.trod_array ht h
 match cs,hl with
 | [c0,c1],_ =>
  have h0:=hx 0 Z59
  have h1:=hx 1 Z59
  rw [hc1] at h0 h1
  have e0:∃ y,DataW.trod enc P W 0 (fun _=>true) true m e [c0]=some y:=⟨xs[0]'Z59,by rw [← List.getElem?_eq_getElem];simpa using h0⟩
  have e1:∃ y,DataW.trod enc P W 0 (fun _=>true) true m e [c1]=some y:=⟨xs[1]'Z59,by rw [← List.getElem?_eq_getElem];simpa using h1⟩
  obtain ⟨y0,e0⟩:=e0
  obtain ⟨y1,e1⟩:=e1
  obtain ⟨za,rfl,wa⟩:=int_cell he e0
  obtain ⟨zb,rfl,wb⟩:=int_cell he e1
  exact ⟨za,zb,rfl,wa,wb⟩
end
section
variable {H:Type} {enc:TypeId×Value→H} {P:Program}
theorem pair_val {W:World} {t e:TypeId} {k:IntKind} {r:Reach} {b0:Nat} {v:Value} {fuel:Nat} {x:DataW H×List MemPlace} (ht:P.underlying t=some (.array 2 e)) (he:P.underlying e=some (.int k)) (hc:P.cellsOf t=2) (hc1:P.cellsOf e=1)
  (hv:Value.okWide P W r b0 t v) (h:DataW.trod enc P W 0 (fun _=>true) true fuel t v.cells.toList=some x):∃ za zb:Int,v=.agg #[.int k za,.int k zb]∧(Lit.int k za).wf=true∧(Lit.int k zb).wf=true:=by
 obtain ⟨_,_,_,_,hl,_⟩:=DataW.trod_array ht h
 have hagg:∃ cs,v=.agg cs:=by
  simp only [Value.okWide,ht] at hv
  cases v<;>simp_all
 obtain ⟨cs,rfl⟩:=hagg
 have hl2:cs.toList.length=2:=hl.trans hc
 obtain ⟨za,zb,h1,h2,h3⟩:=pair_cells ht he hc1 hl2 h
 exact ⟨za,zb,by rw [← Array.toArray_toList (xs:=cs)];exact congrArg (fun l:List Value=>Value.agg l.toArray) h1,h2,h3⟩
end
end Go.Ex
namespace Go.Proofs.YtkeplgdofphnkaaGreatDoor
open Go Go.Ex Go.RowKit Go.Proofs.Tryz
def cutA (f:FltM) (k:Nat):FltM:={ f with routes:=f.routes.take k }
def cutB (f:FltM) (k:Nat):FltM:={ f with routes:=f.routes.drop k }
theorem sub_ok {f:FltM} (h:FOk f) {rs:List (List Int)} (hs:∀ r∈rs,r∈f.routes) (hl:rs.length≤f.routes.length):FOk { f with routes:=rs } :=
  ⟨⟨h.z.n,h.z.e,h.z.v,fun r hr=>h.z.r r (hs r hr)⟩,h.o,h.s,h.w,h.pl,Nat.le_trans hl h.rl⟩
theorem sub_c {f:FltM} (hC:checkE f=0) {rs:List (List Int)} (hs:∀ r∈rs,r∈f.routes) (hl:rs.length≤f.routes.length):checkE { f with routes:=rs }=0:=by
  obtain ⟨h0,h1,_,_,hr⟩:=ce_inv hC
  have hr2:rs.all (routeB f.edges)=true:=List.all_eq_true.2 fun r h=>List.all_eq_true.1 hr r (hs r h)
  unfold checkE at hC ⊢
  rw [if_neg (show ¬ (16<f.progs.length∨24<f.nodes.length∨100<rs.length) by omega)]
  rw [if_neg h0,if_neg h1] at hC
  rw [if_neg h1]
  dsimp only
  rw [hr2]
  rw [hr] at hC
  exact hC
theorem cutA_s {f:FltM} {k:Nat}:∀ r∈f.routes.take k,r∈f.routes:=fun _ h=>List.mem_of_mem_take h
theorem cutB_s {f:FltM} {k:Nat}:∀ r∈f.routes.drop k,r∈f.routes:=fun _ h=>List.mem_of_mem_drop h
theorem cutA_l {f:FltM} {k:Nat}:(f.routes.take k).length≤f.routes.length:=by rw [List.length_take];omega
theorem cutB_l {f:FltM} {k:Nat}:(f.routes.drop k).length≤f.routes.length:=by rw [List.length_drop];omega
theorem cut_raw (f:FltM) (k:Nat):rawL (cutA f k)++rawL (cutB f k)=rawL f:=by
  show (f.routes.take k).flatMap lnk++(f.routes.drop k).flatMap lnk=f.routes.flatMap lnk
  rw [← List.flatMap_append,List.take_append_drop]
theorem cut_12 {f:FltM} {k:Nat} (h:(rawL f).length≤12):(rawL (cutA f k)).length≤12∧(rawL (cutB f k)).length≤12:=by
  have:=congrArg List.length (cut_raw f k)
  rw [List.length_append] at this
  omega
theorem cut_in {f:FltM} {k:Nat} {u ua ub:List Int} (hU:UsedP f u) (hA:UsedP (cutA f k) ua) (hB:UsedP (cutB f k) ub) (x:Int):decide (x∈u)=(decide (x∈ua) || decide (x∈ub)):=by
  rw [Bool.eq_iff_iff]
  simp only [Bool.or_eq_true,decide_eq_true_iff]
  rw [hU.2,hA.2,hB.2]
  have e:rawU f=rawU (cutA f k)++rawU (cutB f k):=by
    unfold rawU
    rw [← cut_raw f k,List.map_append];rfl
  rw [e,List.mem_append]
def addE (f:FltM) (p:Int×Int):FltM:={ f with edges:=f.edges++[p] }
theorem addE_ok {f:FltM} (h:FOk f) {p:Int×Int} (he:f.edges.length≤500):FOk (addE f p) :=
  ⟨⟨h.z.n,by show (f.edges++[p]).length≤1000;rw [List.length_append];simp;omega,h.z.v,h.z.r⟩,h.o,h.s,h.w,h.pl,h.rl⟩
theorem made_e (x:RawM):(madeF x).edges.length≤500:=by
  have hn2:=ncnt_le x.size
  show (edP x.edges (ncnt x.size) (ncnt x.size)).length≤500
  have:=edP_le x.edges (ncnt x.size) (ncnt x.size)
  have h25:ncnt x.size*ncnt x.size≤5*5:=Nat.mul_le_mul hn2.2 hn2.2
  omega
theorem addE_u {f:FltM} (hC:checkE f=0) {p:Int×Int}:rawU (addE f p)=rawU f:=by
  obtain ⟨_,_,_,_,hr⟩:=ce_inv hC
  show (rawL f).map (fun e=>(posK e (f.edges++[p]):Int))=(rawL f).map fun e=>(posK e f.edges:Int)
  refine List.map_congr_left fun e he=>?_
  rw [posK_app (rawL_in hr he)]
theorem addE_len {f:FltM} {p:Int×Int}:0+f.edges.length+1=(addE f p).edges.length:=by show _=(f.edges++[p]).length;rw [List.length_append];simp
theorem ed_one {G:Ghost} {c:List Value} {e:Int×Int} (h:EdR G c e):∀ y∈c,y.oneCell'=true:=by
  cases h
  intro y hy
  simp only [List.mem_cons,List.not_mem_nil,or_false] at hy
  rcases hy with rfl | rfl<;>rfl
theorem eds_snoc {G:Ghost} {v:Value} {n:Nat} {l:List (Int×Int)} {ecs:List (List Value)} {p:Int×Int} (h:Sl G v 2 n (ecs.flatten++[Vi p.1,Vi p.2])) (hn:n=l.length+1) (ha:All2 (EdR G) ecs l) (hk:∀ c∈ecs,c.length=2):Eds G v (l++[p]) :=
  LstR.ofSl (cs:=ecs++[[Vi p.1,Vi p.2]]) h sM (by rw [List.length_append];exact hn) (All2.snoc ha (show EdR G [Vi p.1,Vi p.2] p from rfl)) (fun c hc=>by rcases List.mem_append.1 hc with hc | hc;exact hk c hc;rw [List.mem_singleton.1 hc];rfl)
def EEs (G:Ghost) (ecs:List (List Value)) (l:List (Int×Int)):Prop:=All2 (EdR G) ecs l
theorem EEs.mono {G G':Ghost} (_:G.le G') {ecs:List (List Value)} {l:List (Int×Int)} (hl:EEs G ecs l):EEs G' ecs l:=All2.mono (fun _ _ h2=>h2) hl
theorem addE_flt {G:Ghost} {Ap An Ae Ar Ag:Option Addr} {cp cn ce cr cg:Nat} {f:FltM} {p:Int×Int} {ecs:List (List Value)} (hf:FltC G Ap An Ae Ar cp cn ce cr f) (h:Sl G (.slice Ag (addE f p).edges.length cg) 2 (addE f p).edges.length (ecs.flatten++[Vi p.1,Vi p.2])) (ha:EEs G ecs f.edges) (hk:∀ c∈ecs,c.length=2) :
    FltC G Ap An Ag Ar cp cn cg cr (addE f p) :=
  ⟨hf.p,hf.n,eds_snoc h (by show (f.edges++[p]).length=_;rw [List.length_append,List.length_singleton]) ha hk,hf.r⟩
theorem ledg_ok {G:Ghost} {sz p0 p1 p2 p3 n0 n1 n2 n3 n4:UInt8} {ed r0 r1 r2:Nat} {a b c:UInt8} (hT:Tab G) (he:ed<4294967296) (h0:r0<65536) (h1:r1<65536) (h2:r2<65536) :
  FnOk prog 7 [.agg #[.int .u8 (sz.toNat:Int),.int .u8 (p0.toNat:Int),.int .u8 (p1.toNat:Int),.int .u8 (p2.toNat:Int),.int .u8 (p3.toNat:Int),.int .u8 (n0.toNat:Int),.int .u8 (n1.toNat:Int),.int .u8 (n2.toNat:Int),.int .u8 (n3.toNat:Int),.int .u8 (n4.toNat:Int),.int .u32 (ed:Int),.int .u16 (r0:Int),.int .u16 (r1:Int),.int .u16 (r2:Int)],.int .u8 (a.toNat:Int),.agg #[.int .u8 (b.toNat:Int),.int .u8 (c.toNat:Int)]] G [] fun r _ H'=>H'=[]∧r=Vt:=by
 obtain ⟨f,hfe⟩:∃ f,f=madeF (rawM sz p0 p1 p2 p3 n0 n1 n2 n3 n4 ed r0 r1 r2):=⟨_,rfl⟩
 have hok:=rawM_ok (sz:=sz) (p0:=p0) (p1:=p1) (p2:=p2) (p3:=p3) (n0:=n0) (n1:=n1) (n2:=n2) (n3:=n3) (n4:=n4) (ed:=ed) (r0:=r0) (r1:=r1) (r2:=r2) h0 h1 h2
 have hfo:FOk f:=by rw [hfe];exact made_fok hok
 have hC:checkE f=0:=by rw [hfe];exact made_ok hok
 have hnn:f.nodes.length=ncnt sz.toNat:=by rw [hfe,made_n hok];rfl
 have hpp:f.progs.length=pcnt sz.toNat:=by rw [hfe,made_p hok];rfl
 have hrr:f.routes.length=rcnt sz.toNat:=by rw [hfe,made_r hok];rfl
 have hn5:=ncnt_le sz.toNat
 have hp5:=pcnt_le sz.toNat
 have hr5:=rcnt_le sz.toNat
 have h12:(rawL f).length≤12:=by rw [hfe];exact made_raw hok
 have hez:=hfo.z.e
 refine FnOk.of_T [(0,_),(1,_),(2,_)] func7 rfl ntmps7 sM rfl fun w0 hs=>?_
 have hT0:=hT
 refine Wt 2 [] hs rfl<|O_s (Sb hs rfl fun b3 _ hs=>O_s (Sb hs rfl fun b5 _ hs=>Wp 4 [0] hs rfl<|O_s (Sc (sani_ok hT) hs rfl fun v1 G' H' _ hR hG26 hs=>?_)))
 obtain ⟨rfl,rfl⟩:=hR
 replace hs:=hs.n rfl
 replace hT:=hT.mono hG26
 refine Wp 5 [0,1] hs rfl<|O_s (Sc (rmad_ok (sz:=sz) (p0:=p0) (p1:=p1) (p2:=p2) (p3:=p3) (n0:=n0) (n1:=n1) (n2:=n2) (n3:=n3) (n4:=n4) (ed:=ed) (r0:=r0) (r1:=r1) (r2:=r2) he h0 h1 h2) hs rfl fun v2 G' H' _ hR hG28 hs=>?_)
 obtain ⟨rfl,hF⟩:=hR
 replace hs:=hs.n rfl
 replace hT:=hT.mono hG28
 rw [← hfe] at hF
 obtain ⟨Ap,An,Ae,Ar,cp,cn,ce,cr,rfl,hf⟩:=hF
 refine O_s (Sa hs zeroValue38 rfl fun b8 _ hs=>O_n (S_stA hs sizeOf38 rfl rfl (vs:=[_,_,_,_]) rfl (rfl) sM (cs':=[_,_,_,_]) rfl fun _ hs =>Wp 1 [0] hs rfl ?_))
 obtain ⟨k,hk⟩:∃ z:Nat,z=a.toNat % (f.routes.length+1):=⟨_,rfl⟩
 have hkl:k<f.routes.length+1:=by rw [hk];exact Nat.mod_lt _ oM
 refine Wu 3 [] hs rfl<|Zy hs (Y_conv underlying5 underlying3 (c:=(a.toNat:Int)) rfl Z31<|Wp 3 [3,0] hs rfl<|Zy hs (Ya (s:=((f.routes.length+1:Nat):Int)) rfl<|Zy hs (Y_rem (c:=((k:Nat):Int)) rfl rfl oM oM (by rw [hk];exact (Int.natCast_emod _ _).symm)<|Wp 2 [0] hs rfl<|T_seqJ (fun E w=>∃ (b10 b11:Nat) (G2:Ghost),Tab G2∧FltC G2 Ap An Ae Ar cp cn ce cr f∧E=⟨[],[(5,Vp b5),(7,Vt),(8,Vp b8),(9,Vi (k:Int)),(10,Vp b10),(11,Vp b11)]⟩∧St ⟨w0,G,feet []⟩ G2 [.blk b10 38 [.slice Ap f.progs.length cp,.slice An f.nodes.length cn,.slice Ae f.edges.length ce,.slice Ar f.routes.length cr],.blk b11 38 [.slice Ap f.progs.length cp,.slice An f.nodes.length cn,.slice Ae f.edges.length ce,.slice Ar f.routes.length cr],.blk b8 38 [.slice Ap f.progs.length cp,.slice An f.nodes.length cn,.slice Ae f.edges.length ce,.slice Ar f.routes.length cr],.blk b5 63 [.int .u8 (b.toNat:Int),.int .u8 (c.toNat:Int)],.blk b3 28 [.int .u8 (sz.toNat:Int),.int .u8 (p0.toNat:Int),.int .u8 (p1.toNat:Int),.int .u8 (p2.toNat:Int),.int .u8 (p3.toNat:Int),.int .u8 (n0.toNat:Int),.int .u8 (n1.toNat:Int),.int .u8 (n2.toNat:Int),.int .u8 (n3.toNat:Int),.int .u8 (n4.toNat:Int),.int .u32 (ed:Int),.int .u16 (r0:Int),.int .u16 (r1:Int),.int .u16 (r2:Int)]] w) ?_ ?_)))
 ·
  refine T_drawS [0,1,2,3,4] hs kR ?_
  replace hs:=hs.drew
  refine Xr [0,1] [0,0] hs rfl<|A_two 2 3 rfl rfl kR rfl rfl ?_ ?_
  ·
   have hle:=hs.le
   refine S_alloc hs zeroValue38 (cs:=[_,_,_,_]) rfl fun b10 _ hs=>?_
   have hsW:=hs.drop
   refine A_moreS hsW hle (Ghost.le.refl _) (List.Sublist.refl _) ?_
   have hle:=hs.le
   refine Xo 3 rfl (Sa hs zeroValue38 rfl fun b11 _ hs=>?_)
   have hs:=hs.f1.f1
   have hsW:=hs.drop.drop
   refine A_moreS hsW hle (Ghost.le.refl _) (List.Sublist.refl _) ?_
   have hs:=hs.f1
   have hle:=hs.le
   refine Xm 4 rfl (S_stA hs sizeOf38 rfl rfl (vs:=[_,_,_,_]) rfl (rfl) sM (cs':=[_,_,_,_]) rfl fun _ hs=>?_)
   have hs:=hs.f1.f1
   have hsW:=hs.drop.drop
   refine A_moreS hsW hle (Ghost.le.refl _) (List.Sublist.refl _)<|Xn 5 rfl (S_stA hs.f1 sizeOf38 rfl rfl (vs:=[_,_,_,_]) rfl (rfl) sM (cs':=[_,_,_,_]) rfl fun _ hs=>?_)
   have hs:=hs.f4.f4.f4.f3.f4
   exact A_done kR (⟨[(5,_),(7,_),(8,_),(9,_),(10,_),(11,_)],⟨rfl,rfl,rfl,rfl,rfl,rfl,trivial⟩,⟨_,_,_,hT,hf,rfl,hs⟩⟩)
  have hle:=hs.le
  refine S_alloc hs zeroValue38 (cs:=[_,_,_,_]) rfl fun b11 _ hs=>?_
  have hsW:=hs.drop
  refine A_moreS hsW hle (Ghost.le.refl _) (List.Sublist.refl _) ?_
  have hle:=hs.le
  refine Xo 2 rfl (Sa hs zeroValue38 rfl fun b10 _ hs=>?_)
  have hs:=hs.f1.f1
  have hsW:=hs.drop.drop
  refine A_moreS hsW hle (Ghost.le.refl _) (List.Sublist.refl _) ?_
  have hle:=hs.le
  refine Xm 4 rfl (S_stA hs sizeOf38 rfl rfl (vs:=[_,_,_,_]) rfl (rfl) sM (cs':=[_,_,_,_]) rfl fun _ hs=>?_)
  have hs:=hs.f1.f1
  have hsW:=hs.drop.drop
  refine A_moreS hsW hle (Ghost.le.refl _) (List.Sublist.refl _)<|Xn 5 rfl (S_stA hs.f1 sizeOf38 rfl rfl (vs:=[_,_,_,_]) rfl (rfl) sM (cs':=[_,_,_,_]) rfl fun _ hs=>?_)
  have hs:=hs.f4.f4.f4.f3.f4
  exact A_done kR (⟨[(5,_),(7,_),(8,_),(9,_),(10,_),(11,_)],⟨rfl,rfl,rfl,rfl,rfl,rfl,trivial⟩,⟨_,_,_,hT,hf,rfl,hs⟩⟩)
 clear hs
 intro E w hI
 obtain ⟨b10,b11,G2,hT,hf,rfl,hs⟩:=hI
 have hT:=hT0.mono hs.le
 refine Wt 5 [3,2] hs rfl<|Zy hs (Y_sliceS hf.r 0 k underlying36 sizeOf45 rfl rfl ⟨_,_,rfl,rfl⟩ oM oM fun Ag nhgR cg hnhgR hgR=>?_)
 rw [List.drop_zero,Nat.sub_zero] at hnhgR hgR
 subst hnhgR
 replace hgR:Rts _ _ _:=hgR
 refine Wp 1 [3] hs rfl<|O_n (Sd hs rfl rfl fun _ hs=>Wp 6 [6,5,7,8,9,10,11,3,2] hs rfl<|Zy hs (Y_sliceS hf.r k f.routes.length underlying36 sizeOf45 rfl ⟨_,_,rfl,rfl⟩ rfl oM oM fun Ah nhhR ch hnhhR hhR=>?_))
 rw [List.take_of_length_le (by rw [List.length_drop];omega)] at hnhhR hhR
 subst hnhhR
 replace hhR:Rts _ _ _:=hhR
 refine Wp 1 [3] hs rfl<|O_n (Sd hs.f1 rfl rfl fun _ hs=>Wp 4 [0,2] hs rfl<|O_s (Sc (fuse_ok hf hfo.z hfo.o hT hC h12) hs rfl fun v3 G' H' _ hR hG50 hs=>?_))
 obtain ⟨rfl,vu,u,rfl,hU,hUi,hUl⟩:=hR
 replace hs:=hs.n rfl
 replace hT:=hT.mono hG50
 replace hf:=hf.mono hG50
 replace hgR:=hgR.mono hG50
 replace hhR:=hhR.mono hG50
 obtain ⟨AU,cu,rfl,_⟩:=id hUi
 refine Wp 9 [0,1] hs rfl<|O_s (Sc (fuse_ok (f:=cutA f k) ⟨hf.p,hf.n,hf.e,hgR⟩ (sub_ok hfo cutA_s cutA_l).z hfo.o hT (sub_c hC cutA_s cutA_l) (cut_12 h12).1) hs rfl fun v4 G' H' _ hR hG55 hs=>?_)
 obtain ⟨rfl,vua,ua,rfl,hUa,hUai,hUal⟩:=hR
 replace hs:=hs.n rfl
 replace hT:=hT.mono hG55
 replace hf:=hf.mono hG55
 replace hhR:=hhR.mono hG55
 replace hUi:=hUi.mono hG55
 obtain ⟨AA,cua,rfl,_⟩:=id hUai
 refine Wp 9 [8,5,7,8,11,12,13,14,15,0] hs rfl<|O_s (Sc (fuse_ok (f:=cutB f k) ⟨hf.p,hf.n,hf.e,hhR⟩ (sub_ok hfo cutB_s cutB_l).z hfo.o hT (sub_c hC cutB_s cutB_l) (cut_12 h12).2) hs rfl fun v5 G' H' _ hR hG60 hs=>?_)
 obtain ⟨rfl,vub,ub,rfl,hUb,hUbi,hUbl⟩:=hR
 replace hs:=hs.n rfl
 replace hT:=hT.mono hG60
 replace hf:=hf.mono hG60
 replace hUi:=hUi.mono hG60
 replace hUai:=hUai.mono hG60
 obtain ⟨AB,cub,rfl,_⟩:=id hUbi
 refine Wp 27 [0,7,5,7,8,12,14,16,72,0] hs rfl ?_
 have hs:=hs.f4.f1.f2.f3.f4
 refine Zl [5,7,8,12,14,16,18] (fun m E w=>∃ (i:Nat) (G2:Ghost),i≤f.edges.length∧Tab G2∧FltC G2 Ap An Ae Ar cp cn ce cr f∧Ints G2 (.slice AU u.length cu) u∧Ints G2 (.slice AA ua.length cua) ua∧Ints G2 (.slice AB ub.length cub) ub∧m=f.edges.length-i∧E=⟨[],[(5,Vp b5),(7,Vt),(8,Vp b8),(12,.slice AU u.length cu),(14,.slice AA ua.length cua),(16,.slice AB ub.length cub),(18,Vi (i:Int))]⟩∧St ⟨w0,G,feet []⟩ G2 [.blk b5 63 [.int .u8 (b.toNat:Int),.int .u8 (c.toNat:Int)],.blk b8 38 [.slice Ap f.progs.length cp,.slice An f.nodes.length cn,.slice Ae f.edges.length ce,.slice Ar f.routes.length cr],.blk b10 38 [.slice Ap f.progs.length cp,.slice An f.nodes.length cn,.slice Ae f.edges.length ce,.slice Ag (f.routes.take k).length cg],.blk b11 38 [.slice Ap f.progs.length cp,.slice An f.nodes.length cn,.slice Ae f.edges.length ce,.slice Ah (f.routes.drop k).length ch],.blk b3 28 [.int .u8 (sz.toNat:Int),.int .u8 (p0.toNat:Int),.int .u8 (p1.toNat:Int),.int .u8 (p2.toNat:Int),.int .u8 (p3.toNat:Int),.int .u8 (n0.toNat:Int),.int .u8 (n1.toNat:Int),.int .u8 (n2.toNat:Int),.int .u8 (n3.toNat:Int),.int .u8 (n4.toNat:Int),.int .u32 (ed:Int),.int .u16 (r0:Int),.int .u16 (r1:Int),.int .u16 (r2:Int)]] w) rfl (⟨0,_,by omega,hT,hf,hUi,hUai,hUbi,rfl,rfl,hs.weak hs.le (Ghost.le.refl _) (List.sublist_append_left [_,_,_,_,_] _)⟩) fun m E w hI=>?_
 obtain ⟨i,G2,hi,hT,hf,hUi,hUai,hUbi,rfl,rfl,hs⟩:=hI
 have hT:=hT0.mono hs.le
 refine Wt 7 [2,1] hs rfl<|Zy hs (Yc rfl (fun h77=>?_) fun h77=>?_)
 ·
  refine Wp 9 [0] hs rfl<|O_s (Sc (rin_ok (x:=(i:Int)) hUi oM) hs rfl fun v6 G' H' _ hR hG82 hs=>?_)
  obtain ⟨rfl,rfl⟩:=hR
  replace hs:=hs.n rfl
  replace hT:=hT.mono hG82
  replace hf:=hf.mono hG82
  replace hUi:=hUi.mono hG82
  replace hUai:=hUai.mono hG82
  replace hUbi:=hUbi.mono hG82
  obtain ⟨bu,hbu⟩:∃ z:Bool,z=decide ((i:Int)∈u):=⟨_,rfl⟩
  rw [← hbu]
  refine Wp 2 [] hs rfl<|O_s (Sc (rin_ok (x:=(i:Int)) hUai oM) hs rfl fun v7 G' H' _ hR hG85 hs=>?_)
  obtain ⟨rfl,rfl⟩:=hR
  replace hs:=hs.n rfl
  replace hT:=hT.mono hG85
  replace hf:=hf.mono hG85
  replace hUi:=hUi.mono hG85
  replace hUai:=hUai.mono hG85
  replace hUbi:=hUbi.mono hG85
  obtain ⟨ba,hba⟩:∃ z:Bool,z=decide ((i:Int)∈ua):=⟨_,rfl⟩
  rw [← hba]
  cases ba
  ·
   refine Wp 3 [] hs rfl<|O_yes 86 rfl rfl (Sc (rin_ok (x:=(i:Int)) hUbi oM) hs rfl fun v8 G' H' _ hR hG89 hs=>?_)
   obtain ⟨rfl,rfl⟩:=hR
   replace hs:=hs.n rfl
   replace hT:=hT.mono hG89
   replace hf:=hf.mono hG89
   replace hUi:=hUi.mono hG89
   replace hUai:=hUai.mono hG89
   replace hUbi:=hUbi.mono hG89
   obtain ⟨bb,hbb⟩:∃ z:Bool,z=decide ((i:Int)∈ub):=⟨_,rfl⟩
   rw [← hbb]
   refine Wp 1 [] hs rfl ?_
   obtain rfl:bu=bb:=by rw [hbu,cut_in hU hUa hUb,← hba,← hbb];rfl
   refine Zy hs (Y_boolNe0 underlying4 rfl rfl<|Wp 5 [0] hs rfl<|Zy hs (Ya (s:=((i+1:Nat):Int)) rfl<|Wp 1 [] hs rfl ?_))
   have hs:=hs.f4.f4.f4.f4.f4
   refine Zx [5,7,8,12,14,16,18] rfl ⟨i+1,_,by omega,hT,hf,hUi,hUai,hUbi,rfl,rfl,hs.weak hs.le (Ghost.le.refl _) (List.sublist_append_left [_,_,_,_,_] _)⟩
  refine Wp 5 [] hs rfl ?_
  obtain rfl:bu=true:=by rw [hbu,cut_in hU hUa hUb,← hba];rfl
  refine Zy hs (Y_boolNe0 underlying4 rfl rfl<|Wp 5 [0] hs rfl<|Zy hs (Ya (s:=((i+1:Nat):Int)) rfl<|Wp 1 [] hs rfl ?_))
  have hs:=hs.f4.f4.f4.f4.f4
  refine Zx [5,7,8,12,14,16,18] rfl ⟨i+1,_,by omega,hT,hf,hUi,hUai,hUbi,rfl,rfl,hs.weak hs.le (Ghost.le.refl _) (List.sublist_append_left [_,_,_,_,_] _)⟩
 refine Wp 3 [0] hs rfl ?_
 obtain ⟨ecs,hel,hea,hek⟩:=id hf.e
 replace hea:EEs _ _ _:=hea
 obtain ⟨pa,hpa⟩:∃ z:Nat,z=b.toNat % f.nodes.length:=⟨_,rfl⟩
 obtain ⟨pb,hpb⟩:∃ z:Nat,z=c.toNat % f.nodes.length:=⟨_,rfl⟩
 have he5:f.edges.length≤500:=by rw [hfe];exact made_e _
 refine Wu 3 [1] hs rfl<|O_s (Sa hs zeroValue38 rfl fun b19 _ hs=>O_n (S_stA hs sizeOf38 rfl rfl (vs:=[_,_,_,_]) rfl (rfl) sM (cs':=[_,_,_,_]) rfl fun _ hs =>Wp 3 [0] hs rfl<|O_s (S_lit hs underlying35 sizeOf31 zeroValue31 rfl rfl dC dC rfl (cs:=[]) rfl rfl fun v9 _ hs shl=>?_)))
 obtain ⟨bl93,rfl⟩:=shl
 refine Wp 2 [2,3] hs rfl<|O_s (S_append hs underlying35 TI31 rfl dC rfl rfl (hel) ((flat_one (fun _ _ h=>ed_one h) hea)) oM oM fun v10 _ hs =>Wp 1 [2] hs rfl<|O_n (Sd hs.f1 rfl (hs.f1.rowOne 1 rfl) fun _ hs=>Wp 2 [0] hs rfl<|T_drawS [0,1,2,3,4,5,6,7,8,9,10,11,12,13,14,15,16,17] hs kR ?_))
 replace hs:=hs.drew
 refine Xr [0,1] [2,0] hs rfl<|Xt 2 hs rfl (Y_idxArr 0 underlying63 sizeOf5 rfl rfl rfl dC (m:=0) rfl<|Xr [3] [2] hs rfl<|Xt 4 hs rfl (Y_conv underlying5 underlying3 (c:=(b.toNat:Int)) rfl Z32<|Xr [5,6,7] [1,3] hs rfl<|Xt 8 hs rfl (Y_rem (c:=((pa:Nat):Int)) rfl rfl oM oM (by rw [hpa];exact (Int.natCast_emod _ _).symm)<|Xt 9 hs rfl (Y_idxArr 1 underlying63 sizeOf5 rfl rfl rfl dC (m:=1) rfl<|Xr [10] [2] hs rfl<|Xt 11 hs rfl (Y_conv underlying5 underlying3 (c:=(c.toNat:Int)) rfl (by have:=c.toNat_lt;rw [IntKind.wrap_i64];omega)<|Xr [12,13,14] [1,3] hs rfl<|Xt 15 hs rfl (Y_rem (c:=((pb:Nat):Int)) rfl rfl oM oM (by rw [hpb];exact (Int.natCast_emod _ _).symm)<|Xt 16 hs rfl (Y_buildA underlying31 sizeOf3 zeroValue31 rfl rfl (cs:=[_,_]) rfl ?_)))))))
 have hle:=hs.le
 refine Xo 17 rfl (S_lit hs underlying35 sizeOf31 zeroValue31 rfl rfl dC dC rfl (cs:=[_,_]) rfl rfl fun v11 _ hs _=>?_)
 obtain ⟨_,hG115,hl115,hs⟩:=hs.fixRow noM
 replace hT:=hT.mono hG115
 replace hf:=hf.mono hG115
 replace hUi:=hUi.mono hG115
 replace hea:=hea.mono hG115
 refine A_moreS hs hle hG115 (List.Sublist.refl _)<|Xa 18 rfl (S_append hs.f1 underlying35 TI31 rfl dC rfl rfl (hl115) ((fun y hy=>by simp only [List.mem_cons,List.not_mem_nil,or_false] at hy;rcases hy with rfl | rfl<;>rfl)) oM oM fun v12 _ hs =>Xa 19 rfl (S_y hs rfl (Yf 2 rfl<|Xn 20 rfl (Sd hs.f1 rfl (hs.f1.rowOne 1 rfl) fun _ hs=>Xe (Zk [7,8,12,19] rfl ?_)))))
 rw [show 0+f.edges.length+1=(addE f ((pa:Int),(pb:Int))).edges.length from addE_len] at hs
 have hs:=hs.f1
 obtain ⟨_,hG_hfg,hfg,hs⟩:=hs.fixRow noM
 replace hT:=hT.mono hG_hfg
 replace hf:=hf.mono hG_hfg
 replace hUi:=hUi.mono hG_hfg
 replace hea:=hea.mono hG_hfg
 obtain ⟨Ai,ci,hge,_⟩:=id hfg
 subst hge
 have hfg2:=addE_flt (p:=((pa:Int),(pb:Int))) hf (by simpa using hfg) hea hek
 refine Wu 4 [0] hs rfl<|O_s (Sc (fval_ok (f:=(addE f ((pa:Int),(pb:Int)))) hfg2 (addE_ok hfo oM).z hfo.o hT) hs rfl fun v13 G' H' _ hR hG119 hs=>?_)
 obtain ⟨rfl,rfl⟩:=hR
 replace hs:=hs.n rfl
 replace hT:=hT.mono hG119
 replace hf:=hf.mono hG119
 replace hUi:=hUi.mono hG119
 replace hfg2:=hfg2.mono hG119
 refine Zy hs (Yc rfl (fun h120=>?_) fun h120=>?_)
 ·
  refine Wp 7 [0,0] hs rfl<|T_ret<|Zz results7 rfl ?_
  exact ⟨_,[],hs.done,rfl,rfl⟩
 refine Wp 3 [0] hs rfl ?_
 have hC2:checkE (addE f ((pa:Int),(pb:Int)))=0:=by omega
 refine Wu 3 [0] hs rfl<|O_s (Sc (fuse_ok (f:=(addE f ((pa:Int),(pb:Int)))) hfg2 (addE_ok hfo oM).z hfo.o hT hC2 h12) hs rfl fun v14 G' H' _ hR hG124 hs=>?_)
 obtain ⟨rfl,vum,um,rfl,hUm,hUmi,hUml⟩:=hR
 replace hs:=hs.n rfl
 replace hT:=hT.mono hG124
 replace hf:=hf.mono hG124
 replace hUi:=hUi.mono hG124
 replace hfg2:=hfg2.mono hG124
 obtain rfl:um=u:=used_eq hUm hU (fun z=>by rw [addE_u hC])
 obtain ⟨AM,cum,rfl,_⟩:=id hUmi
 refine Wp 9 [0,2] hs rfl<|O_s (Sc (fpai_ok hf hfo.z hfo.o hT hC h12) hs rfl fun v15 G' H' _ hR hG129 hs=>?_)
 obtain ⟨rfl,vP,q,rfl,hPq,hQ,hql⟩:=hR
 replace hs:=hs.n rfl
 replace hT:=hT.mono hG129
 replace hUi:=hUi.mono hG129
 replace hfg2:=hfg2.mono hG129
 replace hUmi:=hUmi.mono hG129
 obtain ⟨AQ,cQ,rfl⟩:=LstR.slice hQ
 refine Wp 9 [0,0] hs rfl<|O_s (Sc (fpai_ok (f:=(addE f ((pa:Int),(pb:Int)))) hfg2 (addE_ok hfo oM).z hfo.o hT hC2 h12) hs rfl fun v16 G' H' _ hR hG134 hs=>?_)
 obtain ⟨rfl,vP2,q2,rfl,hPq2,hQ2,hql2⟩:=hR
 replace hs:=hs.n rfl
 replace hUi:=hUi.mono hG134
 replace hUmi:=hUmi.mono hG134
 replace hQ:=hQ.mono hG134
 obtain rfl:q2=q:=pairs_eq hPq2 hPq (fun _=>Iff.rfl)
 obtain ⟨AQ2,cQ2,rfl⟩:=LstR.slice hQ2
 refine Wp 21 [8,7,12,20,21,22,23,24,25] hs rfl<|O_yes 147 rfl rfl (Sc (rsin_ok hUi hUmi oM) hs rfl fun v17 G' H' _ hR hG150 hs=>?_)
 obtain ⟨rfl,rfl⟩:=hR
 replace hs:=hs.n rfl
 replace hQ:=hQ.mono hG150
 replace hQ2:=hQ2.mono hG150
 rw [decide_eq_true rfl]
 refine Wp 4 [] hs rfl<|O_yes 152 rfl rfl (Sc (rspr_ok hQ hQ2 oM) hs rfl fun v18 G' H' _ hR hG155 hs=>?_)
 obtain ⟨rfl,rfl⟩:=hR
 replace hs:=hs.n rfl
 refine Wp 6 [1,6] hs rfl<|T_ret<|Zz results7 rfl ?_
 exact ⟨_,[],hs.done,rfl,rfl⟩
end Go.Proofs.YtkeplgdofphnkaaGreatDoor
