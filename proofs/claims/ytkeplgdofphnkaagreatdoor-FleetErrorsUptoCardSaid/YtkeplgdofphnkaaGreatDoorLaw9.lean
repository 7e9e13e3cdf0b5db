/- The walk of FleetErrors: the call returns true, whatever its arguments read. -/
import Derived.Test.YtkeplgdofphnkaaGreatDoorEI
set_option maxHeartbeats 4000000
set_option maxRecDepth 10000
set_option linter.unusedVariables false
namespace Go.Proofs.YtkeplgdofphnkaaGreatDoor
open Go Go.Ex Go.RowKit Go.Proofs.Tryz
theorem Bh {G:Ghost} {c:List Value} {r:List Int} (h:RtR G c r):∀ y∈c,y.oneCell'=true:=by
  obtain ⟨v,rfl,hv⟩:=h
  obtain ⟨A,k,rfl,_⟩:=hv
  exact all_one rfl
def Bi (G:Ghost) (rcs:List (List Value)) (l:List (List Int)):Prop:=All2 (RtR G) rcs l
theorem Bi.mono {G G':Ghost} (h:G.le G') {rcs:List (List Value)} {l:List (List Int)} (hl:Bi G rcs l):Bi G' rcs l:=All2.mono (fun _ _ h2=>RtR.mono h h2) hl
theorem Bj {G:Ghost} {c:List Value} {e:Int×Int} (h:EdR G c e):∀ y∈c,y.oneCell'=true:=by
  cases h
  intro y hy
  simp only [List.mem_cons,List.not_mem_nil,or_false] at hy
  rcases hy with rfl | rfl<;>rfl
def Bk (G:Ghost) (ecs:List (List Value)) (l:List (Int×Int)):Prop:=All2 (EdR G) ecs l
theorem Bk.mono {G G':Ghost} (_:G.le G') {ecs:List (List Value)} {l:List (Int×Int)} (hl:Bk G ecs l):Bk G' ecs l:=All2.mono (fun _ _ h2=>h2) hl
theorem Bl {G:Ghost} {c:List Value} {x:NodM} (h:NodR G c x):∀ y∈c,y.oneCell'=true:=by
  obtain ⟨v,rfl,hv⟩:=h
  obtain ⟨A,k,rfl,_⟩:=hv
  intro y hy
  simp only [List.mem_cons,List.not_mem_nil,or_false] at hy
  rcases hy with rfl | rfl | rfl | rfl<;>rfl
theorem Af {k:Nat}:∀ {css:List (List Value)} {i j:Nat} {c:List Value},(∀ c∈css,c.length=k)→css[i]?=some c→j<k→css.flatten[i*k+j]?=c[j]?
  | [],_,_,_,_,hc,_=>by simp at hc
  | d::css,0,j,c,hk,hc,hj=>by
    have hc':d=c:=by simpa using hc
    subst hc'
    rw [List.flatten_cons,Nat.zero_mul,Nat.zero_add,List.getElem?_append_left (by rw [hk d sM];exact hj)]
  | d::css,i+1,j,c,hk,hc,hj=>by
    have hd:=hk d sM
    rw [List.flatten_cons,List.getElem?_append_right (by rw [hd,Nat.succ_mul];omega),hd,show (i+1)*k+j-k=i*k+j by rw [Nat.succ_mul];omega]
    exact Af (fun c h=>hk c (List.mem_cons_of_mem _ h)) (by simpa using hc) hj
def Bn (G:Ghost) (pcs:List (List Value)) (l:List ProgM):Prop:=All2 (PgR G) pcs l
theorem Bn.mono {G G':Ghost} (h:G.le G') {pcs:List (List Value)} {l:List ProgM} (hl:Bn G pcs l):Bn G' pcs l:=All2.mono (fun _ _ h2=>PgR.mono h h2) hl
theorem Bm {G:Ghost} {c:List Value} {p:ProgM} (h:PgR G c p):∀ y∈c,y.oneCell'=true:=by
  obtain ⟨vs,vb,rfl,⟨h1,_⟩,⟨h2,_⟩⟩:=h
  obtain ⟨A,k,rfl⟩:=LstR.slice h1
  obtain ⟨B,m,rfl⟩:=LstR.slice h2
  intro y hy
  simp only [List.mem_cons,List.not_mem_nil,or_false] at hy
  rcases hy with rfl | rfl<;>rfl
theorem Bb {G:Ghost} {v:Value} {pcs:List (List Value)} {l:List ProgM} (hP:Bn G pcs l) (hk:∀ c∈pcs,c.length=2) (h:Sl G v 2 (l++[noP]).length (pcs.flatten++[Vn,Vn])):Pgs G v (l++[noP]) :=
  LstR.ofSl (cs:=pcs++[[Vn,Vn]]) h sM rfl (All2.snoc hP ⟨Vn,Vn,rfl,⟨LstR.nil,fun _=>rfl⟩,⟨LstR.nil,fun _=>rfl⟩⟩) (fun c hc=>(List.mem_append.1 hc).elim (hk c) (fun e=>by rw [List.mem_singleton.1 e];rfl))
theorem Ah {G:Ghost} {v:Value} {n:Nat} {xs:List Value} {l:List Int} (h:Sl G v 1 n xs) (hn:n=l.length) (hx:xs=l.map (.int .i64)):Ints G v l:=by
  subst hn;subst hx;exact h
theorem Ao {G:Ghost} {v:Value} {l:List Int} (h:Ints G v l):v.oneCell'=true:=by
  obtain ⟨A,c,rfl,_⟩:=h;rfl
theorem Am {G:Ghost} {ecs:List (List Value)} {l:List (Int×Int)} (h:Bk G ecs l) (hk:∀ c∈ecs,c.length=2) (a b:Int):Bk G (ecs++[[Vi a,Vi b]]) (l++[(a,b)])∧∀ c∈ecs++[[Vi a,Vi b]],c.length=2 :=
  ⟨All2.snoc h (show EdR G [Vi a,Vi b] (a,b) from rfl),fun c hc=>(List.mem_append.1 hc).elim (hk c) (fun e=>by rw [List.mem_singleton.1 e];rfl)⟩
theorem Bc {G:Ghost} {rcs:List (List Value)} {l:List (List Int)} (h:Bi G rcs l) (hk:∀ c∈rcs,c.length=1) {u:Value} {q:List Int} (hq:Ints G u q):Bi G (rcs++[[u]]) (l++[q])∧∀ c∈rcs++[[u]],c.length=1 :=
  ⟨All2.snoc h ⟨u,rfl,hq⟩,fun c hc=>(List.mem_append.1 hc).elim (hk c) (fun e=>by rw [List.mem_singleton.1 e];rfl)⟩
theorem Bo {css:List (List Value)} {c:List Value} {u:Value} (hk:∀ c∈css,c.length=1) (hc:css[0]?=some c):css.flatten.set 0 u=(css.set 0 (c.set 0 u)).flatten:=by
  have:=flatK_set (u:=u) (i:=0) (j:=0) hk hc dC
  simpa using this
theorem at0 {css:List (List Value)} {u:Value} (hk:∀ c∈css,c.length=1) (hc:css[0]?=some [u]):css.flatten[0]?=some u:=by
  have:=Af (i:=0) (j:=0) hk hc dC
  simpa using this
theorem Ba {f:FltM} (h:FOk f) {n:Nat} {y:NodM} (hy:y.vers.length≤1000):FOk ⟨f.progs,f.nodes.set n y,f.edges,f.routes⟩ :=
  ⟨⟨by show (f.nodes.set n y).length≤1000;rw [List.length_set];exact h.z.n,h.z.e,fun x hx=>(List.mem_or_eq_of_mem_set hx).elim (h.z.v x) (fun e=>e▸hy),h.z.r⟩,h.o,h.s,h.w,h.pl,h.rl⟩
theorem Bf {f:FltM} (h:FOk f) (he:f.edges.length≤500) {p:Int×Int}:FOk ⟨f.progs,f.nodes,f.edges++[p],f.routes⟩ :=
  ⟨⟨h.z.n,by show (f.edges++[p]).length≤1000;rw [List.length_append];simp;omega,h.z.v,h.z.r⟩,h.o,h.s,h.w,h.pl,h.rl⟩
theorem Bg {f:FltM} (h:FOk f) {r:List Int} (hr:r.length≤1000):FOk ⟨f.progs,f.nodes,f.edges,f.routes.set 0 r⟩ :=
  ⟨⟨h.z.n,h.z.e,h.z.v,fun x hx=>(List.mem_or_eq_of_mem_set hx).elim (h.z.r x) (fun e=>e▸hr)⟩,h.o,h.s,h.w,h.pl,by show (f.routes.set 0 r).length≤1000;rw [List.length_set];exact h.rl⟩
theorem Bp {f:FltM} (h:FOk f) (h5:f.routes.length≤500) {r:List Int} (hr:r.length≤1000):FOk ⟨f.progs,f.nodes,f.edges,f.routes++[r]⟩ :=
  ⟨⟨h.z.n,h.z.e,h.z.v,fun x hx=>(List.mem_append.1 hx).elim (h.z.r x) (fun e=>List.mem_singleton.1 e▸hr)⟩,h.o,h.s,h.w,h.pl,by show (f.routes++[r]).length≤1000;rw [List.length_append];simp;omega⟩
theorem Bq {f:FltM} (h:FOk f) (h5:f.progs.length≤500):FOk ⟨f.progs++[noP],f.nodes,f.edges,f.routes⟩ :=
  ⟨⟨h.z.n,h.z.e,h.z.v,h.z.r⟩,fun p hp=>(List.mem_append.1 hp).elim (h.o p) (fun e=>.inr (List.mem_singleton.1 e)),fun p hp=>(List.mem_append.1 hp).elim (h.s p) (fun e=>by rw [List.mem_singleton.1 e];rfl),
    fun p hp=>(List.mem_append.1 hp).elim (h.w p) (fun e=>by rw [List.mem_singleton.1 e];rfl),by show (f.progs++[noP]).length≤1000;rw [List.length_append];simp;omega,h.rl⟩
theorem Ai {G:Ghost} {Ap An Ae Ar:Option Addr} {cp cn ce cr:Nat} {f:FltM} {hw at_:UInt8} {by_:Int} (hf:FltC G Ap An Ae Ar cp cn ce cr f) (hfo:FOk f) (hC:checkE f=0) (hp5:f.progs.length≤500) (hn1:1≤f.nodes.length) (hn5:f.nodes.length≤500) (he5:f.edges.length≤500) (hr5:f.routes.length≤500) (hr1:1≤f.routes.length) (hrz:∀ r∈f.routes,r.length≤500) :
  FnOk prog 11 [.agg #[.slice Ap f.progs.length cp,.slice An f.nodes.length cn,.slice Ae f.edges.length ce,.slice Ar f.routes.length cr],.agg #[.int .u8 (hw.toNat:Int),.int .u8 (at_.toNat:Int),Vi by_]] G [] fun r G' H'=>H'=[]∧∃ g,FOk g∧FltR G' r g:=by
 obtain ⟨ncs,hnl0,hna,hnk⟩:=id hf.n
 obtain ⟨ecs,hel,hea,hek⟩:=id hf.e
 obtain ⟨rcs,hrl0,hra,hrk⟩:=id hf.r
 have hA:AccN _ _ _:=⟨hna,hnk⟩
 have hE:Bk _ _ _:=hea
 have hR:Bi _ _ _:=hra
 obtain ⟨pcs,hpl,hpa,hpk⟩:=id hf.p
 have hP:Bn _ _ _:=hpa
 refine FnOk.of_T [(0,_),(1,_)] func11 rfl ntmps11 sM rfl fun w0 hs=>?_
 have hf0:=hf
 have hA0:=hA
 have hE0:=hE
 have hR0:=hR
 have hP0:=hP
 refine Wt 2 [] hs rfl<|O_s (Sb hs rfl fun b2 _ hs=>O_s (Sb hs rfl fun b3 _ hs=>O_s (Sa hs zeroValue38 rfl fun b4 _ hs=>Wp 3 [0] hs rfl<|O_s (S_lit hs underlying34 sizeOf61 zeroValue61 rfl rfl dC dC rfl (cs:=[]) rfl rfl fun v1 _ hs shl=>?_))))
 obtain ⟨bl6,rfl⟩:=shl
 refine Wp 2 [1,3] hs rfl<|O_s (S_append hs underlying34 TI61 rfl dC rfl rfl (hnl0) ((flat_one (fun _ _ h=>Bl h) hA.1)) oM oM fun v2 _ hs =>Wp 1 [1] hs rfl<|O_n (Sd hs.f3 rfl (hs.f3.rowOne 1 rfl) fun _ hs=>Wp 3 [0] hs rfl<|O_s (S_lit hs underlying35 sizeOf31 zeroValue31 rfl rfl dC dC rfl (cs:=[]) rfl rfl fun v3 _ hs shl=>?_)))
 obtain ⟨bl11,rfl⟩:=shl
 refine Wp 2 [2,1] hs rfl<|O_s (S_append hs underlying35 TI31 rfl dC rfl rfl (hel) ((flat_one (fun _ _ h=>Bj h) hE)) oM oM fun v4 _ hs =>Wp 1 [2] hs rfl<|O_n (Sd hs.f1 rfl (hs.f1.rowOne 1 rfl) fun _ hs=>Wp 3 [0] hs rfl<|O_s (S_lit hs underlying36 sizeOf45 zeroValue45 rfl rfl dC dC rfl (cs:=[]) rfl rfl fun v5 _ hs shl=>?_)))
 obtain ⟨bl16,rfl⟩:=shl
 refine Wp 2 [3,1] hs rfl<|O_s (S_append hs underlying36 TI45 rfl dC rfl rfl (hrl0) ((flat_one (fun _ _ h=>Bh h) hR)) oM oM fun v6 _ hs =>Wp 1 [3] hs rfl<|O_n (Sd hs.f1 rfl (hs.f1.rowOne 1 rfl) fun _ hs=>Wp 1 [0] hs rfl ?_))
 have hs:=hs.f4.f5.f2.f3.f4.f5
 replace hs:St _ _ [.row 61 4 v2 f.nodes.length (ncs.flatten),.row 31 2 v4 f.edges.length (ecs.flatten),.row 45 1 v6 f.routes.length (rcs.flatten),.blk b2 38 [.slice Ap f.progs.length cp,v2,v4,v6],.blk b3 30 [.int .u8 (hw.toNat:Int),.int .u8 (at_.toNat:Int),Vi by_],.blk b4 38 [Vn,Vn,Vn,Vn]] _:=castH hs sM
 obtain ⟨bn,cn2,rfl,_⟩:=hs.rowForm 0 rfl oM
 obtain ⟨br,cr2,rfl,_⟩:=hs.rowForm 2 rfl oM
 obtain ⟨n,hn⟩:∃ z:Nat,z=at_.toNat % f.nodes.length:=⟨_,rfl⟩
 have hnl:n<f.nodes.length:=by rw [hn];exact Nat.mod_lt _ oM
 obtain ⟨x,hx⟩:∃ z,z=f.nodes[n]:=⟨_,rfl⟩
 obtain ⟨c0,hc0,hcx⟩:=All2.get n hA.1 hnl
 rw [← hx] at hcx
 obtain ⟨uv,rfl,hv0⟩:=hcx
 obtain ⟨Av,cv,rfl,_⟩:=id hv0
 have hvz:=hfo.z.v x (by rw [hx];exact List.getElem_mem _)
 have hni:=node_inv (List.all_eq_true.1 (ce_inv hC).2.2.1 _ (List.getElem_mem hnl))
 rw [← hx] at hni
 refine Wu 4 [1,4] hs rfl<|Zy hs (Y_conv underlying5 underlying3 (c:=(at_.toNat:Int)) rfl (by have:=at_.toNat_lt;rw [IntKind.wrap_i64];omega)<|Wp 3 [1,3] hs rfl<|Zy hs (Y_rem (c:=((n:Nat):Int)) rfl rfl oM oM (by rw [hn];exact (Int.natCast_emod _ _).symm)<|Wp 2 [4,2,3,4,5] hs rfl<|T_seqJ (fun E w=>∃ (ps:List ProgM) (ns:List NodM) (es:List (Int×Int)) (rs:List (List Int)) (vp vn ve vr:Value) (nc ec rc:List (List Value)) (G2:Ghost),FOk ⟨ps,ns,es,rs⟩∧Pgs G2 vp ps∧AccN G2 nc ns∧(Bk G2 ec es∧∀ c∈ec,c.length=2)∧(Bi G2 rc rs∧∀ c∈rc,c.length=1)∧E=⟨[],[(2,Vp b2),(4,Vp b4)]⟩∧St ⟨w0,G,feet []⟩ G2 [.row 61 4 vn ns.length (nc.flatten),.row 31 2 ve es.length (ec.flatten),.row 45 1 vr rs.length (rc.flatten),.blk b2 38 [vp,vn,ve,vr],.blk b3 30 [.int .u8 (hw.toNat:Int),.int .u8 (at_.toNat:Int),Vi by_],.blk b4 38 [Vn,Vn,Vn,Vn]] w) ?_ ?_))
 ·
  refine Wt 4 [0,4] hs rfl<|Zy hs (Y_rem (c:=((hw.toNat % 10:Nat):Int)) rfl rfl oM dC (Int.natCast_emod _ _).symm<|Wp 4 [0] hs rfl<|Zy hs (Yc rfl (fun h32=>?_) fun h32=>?_))
  ·
   refine Wp 9 [0,1,3,2,4] hs rfl<|Zy hs (Y_idxRowK n underlying34 sizeOf61 rfl rfl rfl hnl<|Zy hs (Yf (n * 4+1) rfl<|O_n (S_stRowC hs sizeOf3 rfl rfl rfl oM fun _ hs=>?_)))
   rw [flatK_set hA.2 hc0 dC] at hs
   have hs:=hs.f5.f5.f5.f5.f5.f5
   exact O_nil (⟨[(2,_),(4,_)],⟨rfl,rfl,trivial⟩,⟨f.progs,f.nodes.set n { x with runs:=by_ },f.edges,f.routes,_,_,_,_,ncs.set n [.slice Av x.vers.length cv,Vi by_,Vi x.claims,.bool x.up],ecs,rcs,_,Ba hfo hvz,hf.p,⟨All2.put hA.1 ⟨_,rfl,hv0⟩,setK_len hA.2 rfl⟩,⟨hE,hek⟩,⟨hR,hrk⟩,rfl,castH hs (by rw [List.length_set];rfl)⟩⟩)
  refine Wp 5 [0] hs rfl<|Zy hs (Yc rfl (fun h41=>?_) fun h41=>?_)
  ·
   refine Wp 9 [0,1,3,2,4] hs rfl<|Zy hs (Y_idxRowK n underlying34 sizeOf61 rfl rfl rfl hnl<|Zy hs (Yf (n * 4+2) rfl<|O_n (S_stRowC hs sizeOf3 rfl rfl rfl oM fun _ hs=>?_)))
   rw [flatK_set hA.2 hc0 dC] at hs
   have hs:=hs.f5.f5.f5.f5.f5.f5
   exact O_nil (⟨[(2,_),(4,_)],⟨rfl,rfl,trivial⟩,⟨f.progs,f.nodes.set n { x with claims:=by_ },f.edges,f.routes,_,_,_,_,ncs.set n [.slice Av x.vers.length cv,Vi x.runs,Vi by_,.bool x.up],ecs,rcs,_,Ba hfo hvz,hf.p,⟨All2.put hA.1 ⟨_,rfl,hv0⟩,setK_len hA.2 rfl⟩,⟨hE,hek⟩,⟨hR,hrk⟩,rfl,castH hs (by rw [List.length_set];rfl)⟩⟩)
  refine Wp 5 [0] hs rfl<|Zy hs (Yc rfl (fun h50=>?_) fun h50=>?_)
  ·
   refine Wp 3 [0] hs rfl<|T_drawS [0,1,2,3,4,5,6,7,8,9,10,11,12,13,14] hs kR ?_
   replace hs:=hs.drew
   refine Xr [0,1,2,3,4,6,7,8] [1,3,2,4,1,3] hs rfl<|Xt 9 hs rfl (Y_idxRowK n underlying34 sizeOf61 rfl rfl rfl hnl<|Xt 10 hs rfl (Yf (n*4+0) rfl<|Xt 11 hs rfl (Y_ldRowC 0 rfl isAgg45 rfl (Af hA.2 hc0 dC) ?_)))
   have hle:=hs.le
   refine Xo 5 rfl (S_lit hs underlying45 sizeOf3 zeroValue3 rfl rfl dC dC rfl (cs:=[_]) rfl rfl fun v7 _ hs shl=>?_)
   obtain ⟨bl56,rfl⟩:=shl
   have hsW:=hs.drop
   refine A_moreS hsW hle (Ghost.le.refl _) (List.Sublist.refl _) ?_
   have hle:=hs.le
   refine Xo 12 rfl (S_append hs underlying45 TI3 rfl dC rfl rfl (hv0) (intV_one) oM oM fun v8 _ hs=>?_)
   have hsW:=hs.drop
   refine A_moreS hsW hle (Ghost.le.refl _) (List.Sublist.refl _)<|Xt 13 hsW rfl (Y_idxRowK n underlying34 sizeOf61 rfl rfl rfl hnl<|Xt 14 hsW rfl (Yf (n*4+0) rfl ?_))
   rw [show 1+x.vers.length=(by_::x.vers).length from by simp;try omega] at hs
   obtain ⟨_,hG_hI2,hI2,hs⟩:=hs.fixRow noM
   replace hf:=hf.mono hG_hI2
   replace hA:=hA.mono hG_hI2
   replace hE:=hE.mono hG_hI2
   replace hR:=hR.mono hG_hI2
   have hI2i:=Ah (l:=by_::x.vers) hI2 rfl sM
   refine Xn 15 rfl (S_stRowC hs sizeOf45 rfl rfl (Ao hI2i) oM fun _ hs=>?_)
   rw [flatK_set hA.2 hc0 dC] at hs
   have hs:=hs.f5.f5.f5.f5.f5.f5
   exact A_done kR (⟨[(2,_),(4,_)],⟨rfl,rfl,trivial⟩,⟨f.progs,f.nodes.set n { x with vers:=by_::x.vers },f.edges,f.routes,_,_,_,_,ncs.set n [v8,Vi x.runs,Vi x.claims,.bool x.up],ecs,rcs,_,Ba hfo (by show (by_::x.vers).length≤1000;rw [List.length_cons];omega),hf.p,⟨All2.put hA.1 ⟨_,rfl,hI2i⟩,setK_len hA.2 rfl⟩,⟨hE,hek⟩,⟨hR,hrk⟩,rfl,castH hs (by rw [List.length_set];rfl)⟩⟩)
  refine Wp 5 [0] hs rfl<|Zy hs (Yc rfl (fun h67=>?_) fun h67=>?_)
  ·
   refine Wp 9 [0,2,3,2,4] hs rfl<|Zy hs (Y_buildA underlying31 sizeOf3 zeroValue31 rfl rfl (cs:=[_,_]) rfl<|O_s (S_lit hs underlying35 sizeOf31 zeroValue31 rfl rfl dC dC rfl (cs:=[_,_]) rfl rfl fun v9 _ hs _=>?_))
   obtain ⟨_,hG74,hl74,hs⟩:=hs.fixRow noM
   replace hf:=hf.mono hG74
   replace hA:=hA.mono hG74
   replace hE:=hE.mono hG74
   replace hR:=hR.mono hG74
   refine O_s (S_append hs.f1 underlying35 TI31 rfl dC rfl rfl (hl74) ((fun y hy=>by simp only [List.mem_cons,List.not_mem_nil,or_false] at hy;rcases hy with rfl | rfl<;>rfl)) oM oM fun v10 _ hs =>Wp 1 [2] hs rfl<|O_n (Sd hs.f3 rfl (hs.f3.rowOne 1 rfl) fun _ hs=>?_))
   have hs:=hs.f5.f5.f2.f5.f4.f5
   exact O_nil (⟨[(2,_),(4,_)],⟨rfl,rfl,trivial⟩,⟨f.progs,f.nodes,f.edges++[((n:Int),by_)],f.routes,.slice Ap f.progs.length cp,(Vs bn f.nodes.length cn2),v10,(Vs br f.routes.length cr2),ncs,ecs++[[Vi (n:Int),Vi by_]],rcs,_,Bf hfo he5,hf.p,hA,Am hE hek _ _,⟨hR,hrk⟩,rfl,castH hs sM⟩⟩)
  refine Wp 5 [0] hs rfl<|Zy hs (Yc rfl (fun h78=>?_) fun h78=>?_)
  ·
   refine Wp 9 [0,2,3,2,4] hs rfl<|Zy hs (Y_buildA underlying31 sizeOf3 zeroValue31 rfl rfl (cs:=[_,_]) rfl<|O_s (S_lit hs underlying35 sizeOf31 zeroValue31 rfl rfl dC dC rfl (cs:=[_,_]) rfl rfl fun v11 _ hs _=>?_))
   obtain ⟨_,hG85,hl85,hs⟩:=hs.fixRow noM
   replace hf:=hf.mono hG85
   replace hA:=hA.mono hG85
   replace hE:=hE.mono hG85
   replace hR:=hR.mono hG85
   refine O_s (S_append hs.f1 underlying35 TI31 rfl dC rfl rfl (hl85) ((fun y hy=>by simp only [List.mem_cons,List.not_mem_nil,or_false] at hy;rcases hy with rfl | rfl<;>rfl)) oM oM fun v12 _ hs =>Wp 1 [2] hs rfl<|O_n (Sd hs.f3 rfl (hs.f3.rowOne 1 rfl) fun _ hs=>?_))
   have hs:=hs.f5.f5.f2.f5.f4.f5
   exact O_nil (⟨[(2,_),(4,_)],⟨rfl,rfl,trivial⟩,⟨f.progs,f.nodes,f.edges++[(by_,(n:Int))],f.routes,.slice Ap f.progs.length cp,(Vs bn f.nodes.length cn2),v12,(Vs br f.routes.length cr2),ncs,ecs++[[Vi by_,Vi (n:Int)]],rcs,_,Bf hfo he5,hf.p,hA,Am hE hek _ _,⟨hR,hrk⟩,rfl,castH hs sM⟩⟩)
  refine Wp 5 [0] hs rfl<|Zy hs (Yc rfl (fun h89=>?_) fun h89=>?_)
  ·
   refine Wp 2 [0] hs rfl ?_
   obtain ⟨c1,hrc0,hcr⟩:=All2.get 0 hR (show 0<f.routes.length by omega)
   obtain ⟨r0,hr0e⟩:∃ z,z=f.routes[0]'oM:=⟨_,rfl⟩
   rw [← hr0e] at hcr
   obtain ⟨u0,rfl,hu0⟩:=hcr
   obtain ⟨A0,k0,rfl,_⟩:=id hu0
   have hr0z:=hrz r0 (by rw [hr0e];exact List.getElem_mem _)
   refine Wu 1 [] hs rfl<|T_drawS [0,1,2,3,4,5,6,7,8,9,10,11] hs kR ?_
   replace hs:=hs.drew
   refine Xr [0,1,2,3] [3,3,3,3] hs rfl<|Xt 4 hs rfl (Y_idxRow (0) underlying36 sizeOf45 rfl rfl rfl oM<|Xt 5 hs rfl (Y_ldRow 2 rfl isAgg45 rfl (at0 hrk hrc0)<|Xr [7,8] [2,4] hs rfl<|A_two 6 9 rfl rfl kR rfl rfl ?_ ?_))
   ·
    have hle:=hs.le
    refine S_call (H1:=[]) hs rfl func32 rfl kR (rint_ok hu0 oM) fun v13 G' H' _ hR hG96 hs=>?_
    obtain rfl:=hR
    replace hs:=hs.n rfl
    replace hf:=hf.mono hG96
    replace hA:=hA.mono hG96
    replace hE:=hE.mono hG96
    replace hR:=hR.mono hG96
    have hsW:=hs.drop
    refine A_moreS hsW hle hG96 (List.Sublist.refl _) ?_
    have hle:=hs.le
    refine Xo 9 rfl (S_lit hs underlying45 sizeOf3 zeroValue3 rfl rfl dC dC rfl (cs:=[_]) rfl rfl fun v14 _ hs _=>?_)
    obtain ⟨_,hG99,hl99,hs⟩:=hs.fixRow noM
    replace hf:=hf.mono hG99
    replace hA:=hA.mono hG99
    replace hE:=hE.mono hG99
    replace hR:=hR.mono hG99
    have hsW:=hs.drop
    refine A_moreS hsW hle hG99 (List.Sublist.refl _) ?_
    have hle:=hs.le
    refine Xo 10 rfl (S_append hs underlying45 TI3 rfl dC rfl rfl (hl99) (one1 rfl) oM oM fun v15 _ hs=>?_)
    have hsW:=hs.drop
    refine A_moreS hsW hle (Ghost.le.refl _) (List.Sublist.refl _)<|Xt 11 hsW rfl (Y_idxRow (0) underlying36 sizeOf45 rfl rfl rfl oM ?_)
    rw [show r0.length+1=(r0++[by_]).length from by simp;try omega] at hs
    obtain ⟨_,hG_hI5,hI5,hs⟩:=hs.fixRow noM
    replace hf:=hf.mono hG_hI5
    replace hA:=hA.mono hG_hI5
    replace hE:=hE.mono hG_hI5
    replace hR:=hR.mono hG_hI5
    have hI5i:=Ah (l:=r0++[by_]) hI5 rfl sM
    refine Xn 12 rfl (S_stRow hs.f2 sizeOf45 rfl rfl (Ao hI5i) oM fun _ hs=>?_)
    have hs:=hs.f5.f5.f5.f3.f5.f5
    exact A_done kR (⟨[(2,_),(4,_)],⟨rfl,rfl,trivial⟩,⟨f.progs,f.nodes,f.edges,f.routes.set 0 (r0++[by_]),_,_,_,_,ncs,ecs,rcs.set 0 [v15],_,Bg hfo (by rw [List.length_append,List.length_singleton];omega),hf.p,hA,⟨hE,hek⟩,⟨All2.put hR ⟨_,rfl,hI5i⟩,setK_len hrk rfl⟩,rfl,castH hs (by rw [List.length_set,Bo hrk hrc0];rfl)⟩⟩)
   have hle:=hs.le
   refine S_lit hs underlying45 sizeOf3 zeroValue3 rfl rfl dC dC rfl (cs:=[_]) rfl rfl fun v16 _ hs _=>?_
   obtain ⟨_,hG99,hl99,hs⟩:=hs.fixRow noM
   replace hf:=hf.mono hG99
   replace hA:=hA.mono hG99
   replace hE:=hE.mono hG99
   replace hR:=hR.mono hG99
   replace hu0:=hu0.mono hG99
   refine A_moreS hs hle hG99 (List.Sublist.refl _) ?_
   have hle:=hs.le
   refine Xo 6 rfl (Sc (rint_ok hu0 oM) hs rfl fun v17 G' H' _ hR hG96 hs=>?_)
   obtain rfl:=hR
   replace hs:=hs.n rfl
   replace hf:=hf.mono hG96
   replace hA:=hA.mono hG96
   replace hE:=hE.mono hG96
   replace hR:=hR.mono hG96
   replace hl99:=hl99.mono hG96
   have hsW:=hs.drop
   refine A_moreS hsW hle hG96 (List.Sublist.refl _) ?_
   have hle:=hs.le
   refine Xo 10 rfl (S_append hs underlying45 TI3 rfl dC rfl rfl (hl99) (one1 rfl) oM oM fun v18 _ hs=>?_)
   have hsW:=hs.drop
   refine A_moreS hsW hle (Ghost.le.refl _) (List.Sublist.refl _)<|Xt 11 hsW rfl (Y_idxRow (0) underlying36 sizeOf45 rfl rfl rfl oM ?_)
   rw [show r0.length+1=(r0++[by_]).length from by simp;try omega] at hs
   obtain ⟨_,hG_hI5,hI5,hs⟩:=hs.fixRow noM
   replace hf:=hf.mono hG_hI5
   replace hA:=hA.mono hG_hI5
   replace hE:=hE.mono hG_hI5
   replace hR:=hR.mono hG_hI5
   have hI5i:=Ah (l:=r0++[by_]) hI5 rfl sM
   refine Xn 12 rfl (S_stRow hs.f2 sizeOf45 rfl rfl (Ao hI5i) oM fun _ hs=>?_)
   have hs:=hs.f5.f5.f5.f3.f5.f5
   exact A_done kR (⟨[(2,_),(4,_)],⟨rfl,rfl,trivial⟩,⟨f.progs,f.nodes,f.edges,f.routes.set 0 (r0++[by_]),_,_,_,_,ncs,ecs,rcs.set 0 [v18],_,Bg hfo (by rw [List.length_append,List.length_singleton];omega),hf.p,hA,⟨hE,hek⟩,⟨All2.put hR ⟨_,rfl,hI5i⟩,setK_len hrk rfl⟩,rfl,castH hs (by rw [List.length_set,Bo hrk hrc0];rfl)⟩⟩)
  refine Wp 5 [0] hs rfl<|Zy hs (Yc rfl (fun h103=>?_) fun h103=>?_)
  ·
   refine Wp 9 [0,3,3,2,4] hs rfl<|O_s (S_lit hs underlying45 sizeOf3 zeroValue3 rfl rfl dC dC rfl (cs:=[_,_]) rfl rfl fun v19 _ hs _=>?_)
   have hsN:=hs.fixRow noM
   clear hs
   obtain ⟨_,hG109,hl109,hs⟩:=hsN
   replace hf:=hf.mono hG109
   replace hA:=hA.mono hG109
   replace hE:=hE.mono hG109
   replace hR:=hR.mono hG109
   obtain ⟨A109,c109,rfl,_⟩:=id hl109
   refine O_s (S_lit hs underlying36 sizeOf45 zeroValue45 rfl rfl dC dC rfl (cs:=[_]) rfl rfl fun v20 _ hs _=>?_)
   obtain ⟨_,hG110,hl110,hs⟩:=hs.fixRow noM
   replace hf:=hf.mono hG110
   replace hA:=hA.mono hG110
   replace hE:=hE.mono hG110
   replace hR:=hR.mono hG110
   replace hl109:=hl109.mono hG110
   refine O_s (S_append hs.f2 underlying36 TI45 rfl dC rfl rfl (hl110) (one1 rfl) oM oM fun v21 _ hs =>Wp 1 [3] hs rfl<|O_n (Sd hs.f3 rfl (hs.f3.rowOne 1 rfl) fun _ hs=>?_))
   have hs:=hs.f5.f5.f2.f3.f5.f5
   exact O_nil (⟨[(2,_),(4,_)],⟨rfl,rfl,trivial⟩,⟨f.progs,f.nodes,f.edges,f.routes++[[(n:Int),by_]],.slice Ap f.progs.length cp,(Vs bn f.nodes.length cn2),v4,v21,ncs,ecs,rcs++[[.slice A109 2 c109]],_,Bp hfo hr5 sM,hf.p,hA,⟨hE,hek⟩,Bc hR hrk (Ah (l:=[(n:Int),by_]) hl109 rfl rfl),rfl,castH hs sM⟩⟩)
  refine Wp 5 [0] hs rfl<|Zy hs (Yc rfl (fun h114=>?_) fun h114=>?_)
  ·
   refine Wp 5 [0] hs rfl<|O_s (S_lit hs underlying33 sizeOf70 zeroValue70 rfl rfl dC dC rfl (cs:=[]) rfl rfl fun v22 _ hs shl=>?_)
   obtain ⟨bl115,rfl⟩:=shl
   refine Wp 2 [0,4] hs rfl<|O_s (S_append hs underlying33 TI70 rfl dC rfl rfl (hpl) ((flat_one (fun _ _ h=>Bm h) hP)) oM oM fun v23 _ hs =>Wp 1 [0] hs rfl<|O_n (Sd hs.f4 rfl (hs.f4.rowOne 1 rfl) fun _ hs=>Wp 4 [2,2,4,0,0] hs rfl<|Zy hs (Y_build zeroValue70 rfl PL70 rfl (cs:=[_,_]) rfl<|O_s (S_lit hs underlying33 sizeOf70 zeroValue70 rfl rfl dC dC rfl (cs:=[_,_]) rfl rfl fun v24 _ hs _=>?_))))
   obtain ⟨_,hG123,hl123,hs⟩:=hs.fixRow noM
   replace hA:=hA.mono hG123
   replace hE:=hE.mono hG123
   replace hR:=hR.mono hG123
   replace hP:=hP.mono hG123
   refine O_s (S_append hs.f1 underlying33 TI70 rfl dC rfl rfl (hl123) ((fun y hy=>by simp only [List.mem_cons,List.not_mem_nil,or_false] at hy;rcases hy with rfl | rfl<;>rfl)) oM oM fun v25 _ hs =>Wp 1 [0] hs rfl<|O_n (Sd hs.f1 rfl (hs.f1.rowOne 1 rfl) fun _ hs=>?_))
   rw [show 0+f.progs.length+1=(f.progs++[noP]).length from by simp] at hs
   have hs:=hs.f1
   obtain ⟨_,hG_hpf,hpf,hs⟩:=hs.fixRow noM
   replace hA:=hA.mono hG_hpf
   replace hE:=hE.mono hG_hpf
   replace hR:=hR.mono hG_hpf
   replace hP:=hP.mono hG_hpf
   have hpg:=Bb hP hpk (by simpa using hpf)
   have hs:=hs.f5.f5.f2.f5.f5.f5
   exact O_nil (⟨[(2,_),(4,_)],⟨rfl,rfl,trivial⟩,⟨f.progs++[noP],f.nodes,f.edges,f.routes,_,_,_,_,ncs,ecs,rcs,_,Bq hfo hp5,hpg,hA,⟨hE,hek⟩,⟨hR,hrk⟩,rfl,hs⟩⟩)
  refine Wp 5 [0] hs rfl<|Zy hs (Yc rfl (fun h127=>?_) fun h127=>?_)
  ·
   refine Wp 3 [4,2,4,5,126] hs rfl<|T_drawS [0,1,2,3,4,5,6,7,8,9,10,11] hs kR ?_
   replace hs:=hs.drew
   refine Xr [0,1,2,3,4,5] [1,3,1,3] hs rfl<|Xt 6 hs rfl (Y_idxRowK n underlying34 sizeOf61 rfl rfl rfl hnl<|Xt 7 hs rfl (Yf (n * 4+3) rfl<|Xt 8 hs rfl (Y_ldRowC 0 rfl isAgg4 rfl (Af hA.2 hc0 dC)<|Xr [9] [] hs rfl<|Xt 10 hs rfl (Y_idxRowK n underlying34 sizeOf61 rfl rfl rfl hnl<|Xt 11 hs rfl (Yf (n * 4+3) rfl<|Xn 12 rfl (S_stRowC hs sizeOf4 rfl rfl rfl oM fun _ hs=>?_))))))
   rw [flatK_set hA.2 hc0 dC] at hs
   have hs:=hs.f5.f5.f5.f5.f5.f5
   exact A_done kR (⟨[(2,_),(4,_)],⟨rfl,rfl,trivial⟩,⟨f.progs,f.nodes.set n { x with up:=!x.up },f.edges,f.routes,_,_,_,_,ncs.set n [.slice Av x.vers.length cv,Vi x.runs,Vi x.claims,.bool !x.up],ecs,rcs,_,Ba hfo hvz,hf.p,⟨All2.put hA.1 ⟨_,rfl,hv0⟩,setK_len hA.2 rfl⟩,⟨hE,hek⟩,⟨hR,hrk⟩,rfl,castH hs (by rw [List.length_set];rfl)⟩⟩)
  refine Wp 4 [4,2,4,5,126] hs rfl ?_
  have hs:=hs.f5.f5.f5.f5.f5.f5
  exact ⟨[(2,_),(4,_)],⟨rfl,rfl,trivial⟩,⟨f.progs,f.nodes,f.edges,f.routes,_,_,_,_,ncs,ecs,rcs,_,hfo,hf.p,hA,⟨hE,hek⟩,⟨hR,hrk⟩,rfl,hs⟩⟩
 clear hs
 intro E w hI
 obtain ⟨ps,ns,es,rs,vp,vn,ve,vr,nc,ec,rc,G2,hgo,hPg,hA2,⟨hE2,hek2⟩,⟨hR2,hrk2⟩,rfl,hs⟩:=hI
 obtain ⟨Ap2,cp2,rfl⟩:=LstR.slice hPg
 refine Wt 3 [3] hs rfl<|O_n (S_stA hs.f5 sizeOf38 rfl rfl (vs:=[_,_,_,_]) rfl (by simp only [List.all_cons,List.all_nil,hs.f5.rowOne 1 rfl,hs.f5.rowOne 2 rfl,hs.f5.rowOne 3 rfl];rfl) sM (cs':=[_,_,_,_]) rfl fun _ hs =>Wp 1 [0] hs rfl<|T_ret ?_)
 have hs:=hs.f1
 obtain ⟨_,hG_hfn,hfn,hs⟩:=hs.fixRow noM
 replace hPg:=hPg.mono hG_hfn
 replace hA2:=hA2.mono hG_hfn
 replace hE2:=hE2.mono hG_hfn
 replace hR2:=hR2.mono hG_hfn
 have hs:=hs.f1
 obtain ⟨_,hG_hfe,hfe,hs⟩:=hs.fixRow noM
 replace hPg:=hPg.mono hG_hfe
 replace hA2:=hA2.mono hG_hfe
 replace hE2:=hE2.mono hG_hfe
 replace hR2:=hR2.mono hG_hfe
 replace hfn:=hfn.mono hG_hfe
 have hs:=hs.f1
 obtain ⟨_,hG_hfr,hfr,hs⟩:=hs.fixRow noM
 replace hPg:=hPg.mono hG_hfr
 replace hA2:=hA2.mono hG_hfr
 replace hE2:=hE2.mono hG_hfr
 replace hR2:=hR2.mono hG_hfr
 replace hfn:=hfn.mono hG_hfr
 replace hfe:=hfe.mono hG_hfr
 refine Zz results11 (Rb 0 hs rfl rF) ?_
 exact ⟨_,[],hs.done,rfl,_,hgo,FltR.of (f:=⟨ps,ns,es,rs⟩) hPg (hA2.fin hfn rfl) (LstR.ofSl hfe rfl rfl hE2 hek2) (LstR.ofSl hfr rfl rfl hR2 hrk2)⟩
theorem Bd (x:RawM):(madeF x).edges.length≤500:=by
  have hn2:=ncnt_le x.size
  show (edP x.edges (ncnt x.size) (ncnt x.size)).length≤500
  have:=edP_le x.edges (ncnt x.size) (ncnt x.size)
  have h25:ncnt x.size*ncnt x.size≤5*5:=Nat.mul_le_mul hn2.2 hn2.2
  omega
theorem Be {x:RawM}:∀ r∈(madeF x).routes,r.length≤500:=by
  intro r h
  obtain ⟨l,rfl,_,_,_,h5⟩:=made_route h
  have:=ncnt_le x.size
  unfold ints;rw [List.length_map];omega
theorem lerr_ok {G:Ghost} {sz p0 p1 p2 p3 n0 n1 n2 n3 n4:UInt8} {ed r0 r1 r2:Nat} {hw at_:UInt8} {by_ z0 z1:Int} (hT:Tab G) (he:ed<4294967296) (h0:r0<65536) (h1:r1<65536) (h2:r2<65536) :
  FnOk prog 9 [.agg #[.int .u8 (sz.toNat:Int),.int .u8 (p0.toNat:Int),.int .u8 (p1.toNat:Int),.int .u8 (p2.toNat:Int),.int .u8 (p3.toNat:Int),.int .u8 (n0.toNat:Int),.int .u8 (n1.toNat:Int),.int .u8 (n2.toNat:Int),.int .u8 (n3.toNat:Int),.int .u8 (n4.toNat:Int),.int .u32 (ed:Int),.int .u16 (r0:Int),.int .u16 (r1:Int),.int .u16 (r2:Int)],.agg #[.int .u8 (hw.toNat:Int),.int .u8 (at_.toNat:Int),Vi by_],.agg #[Vi z0,Vi z1]] G [] fun r _ H'=>H'=[]∧r=Vt:=by
 obtain ⟨f,hfe⟩:∃ f,f=madeF (rawM sz p0 p1 p2 p3 n0 n1 n2 n3 n4 ed r0 r1 r2):=⟨_,rfl⟩
 have hok:=rawM_ok (sz:=sz) (p0:=p0) (p1:=p1) (p2:=p2) (p3:=p3) (n0:=n0) (n1:=n1) (n2:=n2) (n3:=n3) (n4:=n4) (ed:=ed) (r0:=r0) (r1:=r1) (r2:=r2) h0 h1 h2
 have hfo:FOk f:=by rw [hfe];exact made_fok hok
 have hC:checkE f=0:=by rw [hfe];exact made_ok hok
 have hnn:f.nodes.length=ncnt sz.toNat:=by rw [hfe,made_n hok];rfl
 have hpp:f.progs.length=pcnt sz.toNat:=by rw [hfe,made_p hok];rfl
 have hrr:f.routes.length=rcnt sz.toNat:=by rw [hfe,made_r hok];rfl
 have hn5:=ncnt_le sz.toNat
 have hp5:=pcnt_le sz.toNat
 have hr5:=rcnt_le sz.toNat
 have h12:(rawL f).length≤12:=by rw [hfe];exact made_raw hok
 have hez:=hfo.z.e
 refine FnOk.of_T [(0,_),(1,_),(2,_)] func9 rfl ntmps9 sM rfl fun w0 hs=>?_
 have hT0:=hT
 refine Wt 2 [] hs rfl<|O_s (Sb hs rfl fun b3 _ hs=>O_s (Sb hs rfl fun b4 _ hs=>O_s (Sb hs rfl fun b5 _ hs=>Wp 4 [0] hs rfl<|O_s (S_call (H1:=[]) hs rfl func10 rfl kR (sani_ok hT) fun v1 G' H' _ hR hG20 hs=>?_))))
 obtain ⟨rfl,rfl⟩:=hR
 replace hs:=hs.n rfl
 replace hT:=hT.mono hG20
 refine Wp 2 [0] hs rfl ?_
 have he5:f.edges.length≤500:=by rw [hfe];exact Bd _
 have hrz:∀ r∈f.routes,r.length≤500:=by rw [hfe];exact Be
 refine Wu 1 [] hs rfl<|T_drawS [0,1,2,3,4] hs kR ?_
 replace hs:=hs.drew
 refine Xr [0,2] [2,1] hs rfl<|A_two 1 4 rfl rfl kR rfl rfl ?_ ?_
 ·
  have hle:=hs.le
  refine S_call (H1:=[]) hs rfl func12 rfl kR (rmad_ok (sz:=sz) (p0:=p0) (p1:=p1) (p2:=p2) (p3:=p3) (n0:=n0) (n1:=n1) (n2:=n2) (n3:=n3) (n4:=n4) (ed:=ed) (r0:=r0) (r1:=r1) (r2:=r2) he h0 h1 h2) fun v2 G' H' _ hR hG22 hs=>?_
  obtain ⟨rfl,hF⟩:=hR
  replace hs:=hs.n rfl
  replace hT:=hT.mono hG22
  rw [← hfe] at hF
  obtain ⟨Ap,An,Ae,Ar,cp,cn,ce,cr,rfl,hf⟩:=hF
  refine A_moreS hs hle hG22 (List.Sublist.refl _)<|A_two 3 4 rfl rfl kR rfl rfl ?_ ?_
  ·
   have hle:=hs.le
   refine S_call (H1:=[]) hs rfl func11 rfl kR (Ai (hw:=hw) (at_:=at_) (by_:=by_) hf hfo hC oM oM oM he5 oM oM hrz) fun v3 G' H' _ hR hG24 hs=>?_
   obtain ⟨rfl,g,hgo,hF2⟩:=hR
   replace hs:=hs.n rfl
   replace hT:=hT.mono hG24
   obtain ⟨Ap2,An2,Ae2,Ar2,cp2,cn2,ce2,cr2,rfl,hf2⟩:=hF2
   refine A_moreS hs hle hG24 (List.Sublist.refl _) ?_
   have hle:=hs.le
   refine Xo 4 rfl (Sa hs zeroValue38 rfl fun b8 _ hs=>A_moreS hs hle (Ghost.le.refl _) (List.sublist_cons_self _ _)<|Xn 5 rfl (Sg hs rfl (rfl) fun _ hs=>Xe (Zk [5,7,8] rfl<|Wu 3 [0] hs rfl<|O_s (S_call (H1:=[]) hs rfl func15 rfl kR (fval_ok (f:=g) hf2 hgo.z hgo.o hT) fun v4 G' H' _ hR hG26 hs=>?_))))
   obtain ⟨rfl,rfl⟩:=hR
   replace hs:=hs.n rfl
   replace hT:=hT.mono hG26
   replace hf2:=hf2.mono hG26
   refine Wp 6 [0] hs rfl<|Zy hs (Yc rfl (fun h28=>?_) fun h28=>?_)
   ·
    refine Wp 7 [0,0] hs rfl<|T_ret<|Zz results9 rfl ?_
    exact ⟨_,[],hs.done,rfl,rfl⟩
   refine Wp 6 [0,0] hs rfl<|Zy hs (Y_idxArr 0 underlying31 sizeOf3 rfl rfl rfl dC (m:=0) rfl<|Wp 1 [1] hs rfl<|O_s (S_call (H1:=[]) hs rfl func13 rfl kR (fprgb_ok (n:=z0) (f:=g) hf2 hgo.z hgo.o hT h28) fun v5 G' H' _ hR hG34 hs=>?_))
   obtain ⟨rfl,rfl⟩:=hR
   replace hs:=hs.n rfl
   replace hT:=hT.mono hG34
   replace hf2:=hf2.mono hG34
   refine Wp 9 [0,0] hs rfl<|O_s (S_call (H1:=[]) hs rfl func17 rfl kR (fuseb_ok (f:=g) hf2 hgo.z hgo.o hT h28) fun v6 G' H' _ hR hG39 hs=>?_)
   obtain ⟨rfl,rfl⟩:=hR
   replace hs:=hs.n rfl
   replace hT:=hT.mono hG39
   replace hf2:=hf2.mono hG39
   refine Wp 9 [7,5,7,8,9,11,12,13,0] hs rfl<|O_s (S_call (H1:=[]) hs rfl func19 rfl kR (fpaib_ok (f:=g) hf2 hgo.z hgo.o hT h28) fun v7 G' H' _ hR hG44 hs=>?_)
   obtain ⟨rfl,rfl⟩:=hR
   replace hs:=hs.n rfl
   replace hT:=hT.mono hG44
   replace hf2:=hf2.mono hG44
   refine Wp 9 [0,0] hs rfl<|Zy hs (Y_idxArr 0 underlying31 sizeOf3 rfl rfl rfl dC (m:=0) rfl<|Wp 1 [1] hs rfl<|Zy hs (Y_idxArr 1 underlying31 sizeOf3 rfl rfl rfl dC (m:=1) rfl<|Wp 1 [1] hs rfl<|O_s (S_call (H1:=[]) hs rfl func23 rfl kR (fpthb_ok (a:=z0) (b:=z1) (f:=g) hf2 hgo.z hgo.o hT h28) fun v8 G' H' _ hR hG53 hs=>?_)))
   obtain ⟨rfl,rfl⟩:=hR
   replace hs:=hs.n rfl
   replace hT:=hT.mono hG53
   replace hf2:=hf2.mono hG53
   refine Wp 9 [11,5,7,8,9,11,12,13,14,15,16,17,0] hs rfl<|Zy hs (Y_idxArr 0 underlying31 sizeOf3 rfl rfl rfl dC (m:=0) rfl<|Wp 1 [1] hs rfl<|Zy hs (Y_idxArr 1 underlying31 sizeOf3 rfl rfl rfl dC (m:=1) rfl<|Wp 1 [1] hs rfl<|O_s (S_call (H1:=[]) hs rfl func25 rfl kR (fsetb_ok (a:=z0) (b:=z1) (f:=g) hf2 hgo.z hgo.o hT h28) fun v9 G' H' _ hR hG62 hs=>?_)))
   obtain ⟨rfl,rfl⟩:=hR
   replace hs:=hs.n rfl
   refine Wp 3 [] hs rfl<|O_s (Sa hs zeroValue38 rfl fun b18 _ hs=>O_n (Sg hs rfl (rfl) fun _ hs=>Wp 6 [0] hs rfl<|Zy hs (Y_cmpT rfl rfl rfl (rfl)<|Wp 3 [] hs rfl<|Zg hs rfl (Y_cmpT rfl rfl rfl (rfl)<|Wp 4 [] hs rfl<|Zg hs rfl (Y_cmpT rfl rfl rfl (rfl)<|Wp 4 [] hs rfl<|Zg hs rfl (Y_cmpT rfl rfl rfl (rfl)<|Wp 4 [] hs rfl<|Zg hs rfl (Y_cmpT rfl rfl rfl (rfl)<|Wp 18 [0] hs rfl<|Zg hs rfl (Y_build zeroValue38 rfl PL38 rfl (cs:=[_,_,_,_]) rfl<|O_yes 103 rfl rfl (S_call (H1:=[]) hs rfl func28 rfl kR (rsfl_ok (f:=noF) (show FltC _ none none none none 0 0 0 0 noF from ⟨LstR.nil,LstR.nil,LstR.nil,LstR.nil⟩) (show FltC _ none none none none 0 0 0 0 noF from ⟨LstR.nil,LstR.nil,LstR.nil,LstR.nil⟩) noF_ok.z noF_ok.s noF_ok.w noF_ok.pl noF_ok.rl) fun v10 G' H' _ hR hG106 hs=>?_)))))))))
   obtain ⟨rfl,rfl⟩:=hR
   replace hs:=hs.n rfl
   refine Wp 6 [1,6] hs rfl<|T_ret<|Zz results9 rfl ?_
   exact ⟨_,[],hs.done,rfl,rfl⟩
  have hle:=hs.le
  refine S_alloc hs zeroValue38 (cs:=[_,_,_,_]) rfl fun b8 _ hs =>A_moreS hs hle (Ghost.le.refl _) (List.sublist_cons_self _ _) ?_
  have hle:=hs.le
  refine Xo 3 rfl (S_call (H1:=[]) hs rfl func11 rfl kR (Ai (hw:=hw) (at_:=at_) (by_:=by_) hf hfo hC oM oM oM he5 oM oM hrz) fun v11 G' H' _ hR hG24 hs=>?_)
  obtain ⟨rfl,g,hgo,hF2⟩:=hR
  replace hs:=hs.n rfl
  replace hT:=hT.mono hG24
  obtain ⟨Ap2,An2,Ae2,Ar2,cp2,cn2,ce2,cr2,rfl,hf2⟩:=hF2
  refine A_moreS hs hle hG24 (List.Sublist.refl _)<|Xn 5 rfl (Sg hs rfl (rfl) fun _ hs=>Xe (Zk [5,7,8] rfl<|Wu 3 [0] hs rfl<|O_s (S_call (H1:=[]) hs rfl func15 rfl kR (fval_ok (f:=g) hf2 hgo.z hgo.o hT) fun v12 G' H' _ hR hG26 hs=>?_)))
  obtain ⟨rfl,rfl⟩:=hR
  replace hs:=hs.n rfl
  replace hT:=hT.mono hG26
  replace hf2:=hf2.mono hG26
  refine Wp 6 [0] hs rfl<|Zy hs (Yc rfl (fun h28=>?_) fun h28=>?_)
  ·
   refine Wp 7 [0,0] hs rfl<|T_ret<|Zz results9 rfl ?_
   exact ⟨_,[],hs.done,rfl,rfl⟩
  refine Wp 6 [0,0] hs rfl<|Zy hs (Y_idxArr 0 underlying31 sizeOf3 rfl rfl rfl dC (m:=0) rfl<|Wp 1 [1] hs rfl<|O_s (S_call (H1:=[]) hs rfl func13 rfl kR (fprgb_ok (n:=z0) (f:=g) hf2 hgo.z hgo.o hT h28) fun v13 G' H' _ hR hG34 hs=>?_))
  obtain ⟨rfl,rfl⟩:=hR
  replace hs:=hs.n rfl
  replace hT:=hT.mono hG34
  replace hf2:=hf2.mono hG34
  refine Wp 9 [0,0] hs rfl<|O_s (S_call (H1:=[]) hs rfl func17 rfl kR (fuseb_ok (f:=g) hf2 hgo.z hgo.o hT h28) fun v14 G' H' _ hR hG39 hs=>?_)
  obtain ⟨rfl,rfl⟩:=hR
  replace hs:=hs.n rfl
  replace hT:=hT.mono hG39
  replace hf2:=hf2.mono hG39
  refine Wp 9 [7,5,7,8,9,11,12,13,0] hs rfl<|O_s (S_call (H1:=[]) hs rfl func19 rfl kR (fpaib_ok (f:=g) hf2 hgo.z hgo.o hT h28) fun v15 G' H' _ hR hG44 hs=>?_)
  obtain ⟨rfl,rfl⟩:=hR
  replace hs:=hs.n rfl
  replace hT:=hT.mono hG44
  replace hf2:=hf2.mono hG44
  refine Wp 9 [0,0] hs rfl<|Zy hs (Y_idxArr 0 underlying31 sizeOf3 rfl rfl rfl dC (m:=0) rfl<|Wp 1 [1] hs rfl<|Zy hs (Y_idxArr 1 underlying31 sizeOf3 rfl rfl rfl dC (m:=1) rfl<|Wp 1 [1] hs rfl<|O_s (S_call (H1:=[]) hs rfl func23 rfl kR (fpthb_ok (a:=z0) (b:=z1) (f:=g) hf2 hgo.z hgo.o hT h28) fun v16 G' H' _ hR hG53 hs=>?_)))
  obtain ⟨rfl,rfl⟩:=hR
  replace hs:=hs.n rfl
  replace hT:=hT.mono hG53
  replace hf2:=hf2.mono hG53
  refine Wp 9 [11,5,7,8,9,11,12,13,14,15,16,17,0] hs rfl<|Zy hs (Y_idxArr 0 underlying31 sizeOf3 rfl rfl rfl dC (m:=0) rfl<|Wp 1 [1] hs rfl<|Zy hs (Y_idxArr 1 underlying31 sizeOf3 rfl rfl rfl dC (m:=1) rfl<|Wp 1 [1] hs rfl<|O_s (S_call (H1:=[]) hs rfl func25 rfl kR (fsetb_ok (a:=z0) (b:=z1) (f:=g) hf2 hgo.z hgo.o hT h28) fun v17 G' H' _ hR hG62 hs=>?_)))
  obtain ⟨rfl,rfl⟩:=hR
  replace hs:=hs.n rfl
  refine Wp 3 [] hs rfl<|O_s (Sa hs zeroValue38 rfl fun b18 _ hs=>O_n (Sg hs rfl (rfl) fun _ hs=>Wp 6 [0] hs rfl<|Zy hs (Y_cmpT rfl rfl rfl (rfl)<|Wp 3 [] hs rfl<|Zg hs rfl (Y_cmpT rfl rfl rfl (rfl)<|Wp 4 [] hs rfl<|Zg hs rfl (Y_cmpT rfl rfl rfl (rfl)<|Wp 4 [] hs rfl<|Zg hs rfl (Y_cmpT rfl rfl rfl (rfl)<|Wp 4 [] hs rfl<|Zg hs rfl (Y_cmpT rfl rfl rfl (rfl)<|Wp 18 [0] hs rfl<|Zg hs rfl (Y_build zeroValue38 rfl PL38 rfl (cs:=[_,_,_,_]) rfl<|O_yes 103 rfl rfl (S_call (H1:=[]) hs rfl func28 rfl kR (rsfl_ok (f:=noF) (show FltC _ none none none none 0 0 0 0 noF from ⟨LstR.nil,LstR.nil,LstR.nil,LstR.nil⟩) (show FltC _ none none none none 0 0 0 0 noF from ⟨LstR.nil,LstR.nil,LstR.nil,LstR.nil⟩) noF_ok.z noF_ok.s noF_ok.w noF_ok.pl noF_ok.rl) fun v18 G' H' _ hR hG106 hs=>?_)))))))))
  obtain ⟨rfl,rfl⟩:=hR
  replace hs:=hs.n rfl
  refine Wp 6 [1,6] hs rfl<|T_ret<|Zz results9 rfl ?_
  exact ⟨_,[],hs.done,rfl,rfl⟩
 have hle:=hs.le
 refine S_alloc hs zeroValue38 (cs:=[_,_,_,_]) rfl fun b8 _ hs =>A_moreS hs hle (Ghost.le.refl _) (List.sublist_cons_self _ _) ?_
 have hle:=hs.le
 refine Xo 1 rfl (S_call (H1:=[]) hs rfl func12 rfl kR (rmad_ok (sz:=sz) (p0:=p0) (p1:=p1) (p2:=p2) (p3:=p3) (n0:=n0) (n1:=n1) (n2:=n2) (n3:=n3) (n4:=n4) (ed:=ed) (r0:=r0) (r1:=r1) (r2:=r2) he h0 h1 h2) fun v19 G' H' _ hR hG22 hs=>?_)
 obtain ⟨rfl,hF⟩:=hR
 replace hs:=hs.n rfl
 replace hT:=hT.mono hG22
 rw [← hfe] at hF
 obtain ⟨Ap,An,Ae,Ar,cp,cn,ce,cr,rfl,hf⟩:=hF
 refine A_moreS hs hle hG22 (List.Sublist.refl _) ?_
 have hle:=hs.le
 refine Xo 3 rfl (S_call (H1:=[]) hs rfl func11 rfl kR (Ai (hw:=hw) (at_:=at_) (by_:=by_) hf hfo hC oM oM oM he5 oM oM hrz) fun v20 G' H' _ hR hG24 hs=>?_)
 obtain ⟨rfl,g,hgo,hF2⟩:=hR
 replace hs:=hs.n rfl
 replace hT:=hT.mono hG24
 obtain ⟨Ap2,An2,Ae2,Ar2,cp2,cn2,ce2,cr2,rfl,hf2⟩:=hF2
 refine A_moreS hs hle hG24 (List.Sublist.refl _)<|Xn 5 rfl (Sg hs rfl (rfl) fun _ hs=>Xe (Zk [5,7,8] rfl<|Wu 3 [0] hs rfl<|O_s (S_call (H1:=[]) hs rfl func15 rfl kR (fval_ok (f:=g) hf2 hgo.z hgo.o hT) fun v21 G' H' _ hR hG26 hs=>?_)))
 obtain ⟨rfl,rfl⟩:=hR
 replace hs:=hs.n rfl
 replace hT:=hT.mono hG26
 replace hf2:=hf2.mono hG26
 refine Wp 6 [0] hs rfl<|Zy hs (Yc rfl (fun h28=>?_) fun h28=>?_)
 ·
  refine Wp 7 [0,0] hs rfl<|T_ret<|Zz results9 rfl ?_
  exact ⟨_,[],hs.done,rfl,rfl⟩
 refine Wp 6 [0,0] hs rfl<|Zy hs (Y_idxArr 0 underlying31 sizeOf3 rfl rfl rfl dC (m:=0) rfl<|Wp 1 [1] hs rfl<|O_s (S_call (H1:=[]) hs rfl func13 rfl kR (fprgb_ok (n:=z0) (f:=g) hf2 hgo.z hgo.o hT h28) fun v22 G' H' _ hR hG34 hs=>?_))
 obtain ⟨rfl,rfl⟩:=hR
 replace hs:=hs.n rfl
 replace hT:=hT.mono hG34
 replace hf2:=hf2.mono hG34
 refine Wp 9 [0,0] hs rfl<|O_s (S_call (H1:=[]) hs rfl func17 rfl kR (fuseb_ok (f:=g) hf2 hgo.z hgo.o hT h28) fun v23 G' H' _ hR hG39 hs=>?_)
 obtain ⟨rfl,rfl⟩:=hR
 replace hs:=hs.n rfl
 replace hT:=hT.mono hG39
 replace hf2:=hf2.mono hG39
 refine Wp 9 [7,5,7,8,9,11,12,13,0] hs rfl<|O_s (S_call (H1:=[]) hs rfl func19 rfl kR (fpaib_ok (f:=g) hf2 hgo.z hgo.o hT h28) fun v24 G' H' _ hR hG44 hs=>?_)
 obtain ⟨rfl,rfl⟩:=hR
 replace hs:=hs.n rfl
 replace hT:=hT.mono hG44
 replace hf2:=hf2.mono hG44
 refine Wp 9 [0,0] hs rfl<|Zy hs (Y_idxArr 0 underlying31 sizeOf3 rfl rfl rfl dC (m:=0) rfl<|Wp 1 [1] hs rfl<|Zy hs (Y_idxArr 1 underlying31 sizeOf3 rfl rfl rfl dC (m:=1) rfl<|Wp 1 [1] hs rfl<|O_s (S_call (H1:=[]) hs rfl func23 rfl kR (fpthb_ok (a:=z0) (b:=z1) (f:=g) hf2 hgo.z hgo.o hT h28) fun v25 G' H' _ hR hG53 hs=>?_)))
 obtain ⟨rfl,rfl⟩:=hR
 replace hs:=hs.n rfl
 replace hT:=hT.mono hG53
 replace hf2:=hf2.mono hG53
 refine Wp 9 [11,5,7,8,9,11,12,13,14,15,16,17,0] hs rfl<|Zy hs (Y_idxArr 0 underlying31 sizeOf3 rfl rfl rfl dC (m:=0) rfl<|Wp 1 [1] hs rfl<|Zy hs (Y_idxArr 1 underlying31 sizeOf3 rfl rfl rfl dC (m:=1) rfl<|Wp 1 [1] hs rfl<|O_s (S_call (H1:=[]) hs rfl func25 rfl kR (fsetb_ok (a:=z0) (b:=z1) (f:=g) hf2 hgo.z hgo.o hT h28) fun v26 G' H' _ hR hG62 hs=>?_)))
 obtain ⟨rfl,rfl⟩:=hR
 replace hs:=hs.n rfl
 refine Wp 3 [] hs rfl<|O_s (Sa hs zeroValue38 rfl fun b18 _ hs=>O_n (Sg hs rfl (rfl) fun _ hs=>Wp 6 [0] hs rfl<|Zy hs (Y_cmpT rfl rfl rfl (rfl)<|Wp 3 [] hs rfl<|Zg hs rfl (Y_cmpT rfl rfl rfl (rfl)<|Wp 4 [] hs rfl<|Zg hs rfl (Y_cmpT rfl rfl rfl (rfl)<|Wp 4 [] hs rfl<|Zg hs rfl (Y_cmpT rfl rfl rfl (rfl)<|Wp 4 [] hs rfl<|Zg hs rfl (Y_cmpT rfl rfl rfl (rfl)<|Wp 18 [0] hs rfl<|Zg hs rfl (Y_build zeroValue38 rfl PL38 rfl (cs:=[_,_,_,_]) rfl<|O_yes 103 rfl rfl (S_call (H1:=[]) hs rfl func28 rfl kR (rsfl_ok (f:=noF) (show FltC _ none none none none 0 0 0 0 noF from ⟨LstR.nil,LstR.nil,LstR.nil,LstR.nil⟩) (show FltC _ none none none none 0 0 0 0 noF from ⟨LstR.nil,LstR.nil,LstR.nil,LstR.nil⟩) noF_ok.z noF_ok.s noF_ok.w noF_ok.pl noF_ok.rl) fun v27 G' H' _ hR hG106 hs=>?_)))))))))
 obtain ⟨rfl,rfl⟩:=hR
 replace hs:=hs.n rfl
 refine Wp 6 [1,6] hs rfl<|T_ret<|Zz results9 rfl ?_
 exact ⟨_,[],hs.done,rfl,rfl⟩
end Go.Proofs.YtkeplgdofphnkaaGreatDoor
