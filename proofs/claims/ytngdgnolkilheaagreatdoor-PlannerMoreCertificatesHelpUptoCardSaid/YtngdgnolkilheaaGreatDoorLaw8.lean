/- The walk of the law PlannerMoreCertificatesHelp: the call returns true, whatever its arguments read, and changes nothing. -/
import Derived.Test.YtngdgnolkilheaaGreatDoorMI
set_option maxHeartbeats 4000000
set_option maxRecDepth 10000
set_option linter.unusedVariables false
set_option linter.unusedSimpArgs false
set_option linter.unusedSectionVars false
namespace Go.Proofs.YtngdgnolkilheaaGreatDoor
open Go Go.Ex Go.RowKit Go.Proofs.Tryz
open Pl
theorem kV:∀ (f:Nat) (p l:List Nat),l.length=f→∃ t,Em f p l=(p++l)::t
  | 0,p,l,h=>by
    obtain rfl:l=[]:=List.length_eq_zero_iff.1 h
    exact ⟨[],by rw [Em];simp⟩
  | f+1,p,a::l,h=>by
    obtain ⟨t,ht⟩:=kV f (p++[a]) l bR
    rw [Ph sM,List.length_cons,List.range_succ_eq_map,List.flatMap_cons]
    have e:ordG f p (a::l) 0=Em f (p++[a]) l:=rfl
    rw [e,ht]
    exact ⟨_,by simp;rfl⟩
theorem cl_none {f:Ca} {nv:List Int} {s:List (List Bool)} {u:List Int} {o:List Nat} (hU:kO f nv) (hu:Ig f u) (hs:∀ a b:Int,0≤a→a<f.progs.length→0≤b→b<f.progs.length→Im s a b=true):Gq f nv s u o=[]:=by
  unfold Gq clF
  rw [List.filter_eq_nil_iff]
  intro e he hc
  have:Pg (eE f nv) (lF f) (Im s) (Hp f) o e=true:=List.all_eq_true.2 fun r hr=>by
    obtain ⟨i,a,b,hiE,hie,hab,haN,hbN,hed⟩:=ed_at hU hu he
    obtain ⟨hxl,hxr⟩:=st_in hU hr
    unfold okE
    rw [hed]
    dsimp only
    rw [Le oM,Le oM]
    exact hs _ _ (hxr _ (List.getElem_mem _)).1 (hxr _ (List.getElem_mem _)).2 (hxr _ (List.getElem_mem _)).1 (hxr _ (List.getElem_mem _)).2
  rw [this] at hc;cases hc
theorem cl_more {f:Ca} {nv:List Int} {s t:List (List Bool)} {u:List Int} {o:List Nat} (h:∀ a b,Im s a b=true→Im t a b=true):(Gq f nv t u o).length≤(Gq f nv s u o).length:=(cl_mono h o).length_le
theorem uC {f:Ca} {nv:List Int} {s:List (List Bool)} {u:List Int} {o:List Nat} (h:Tu (Gq f nv s u) none (Em (En f nv).length [] (En f nv))=some (o,Gq f nv s u o)) (hs:∀ o,Gq f nv s u o=[]):o=En f nv:=by
  obtain ⟨a,b,h1,h2,h3⟩:=Qe h
  obtain ⟨t,ht⟩:=kV _ [] (En f nv) rfl
  cases a with
  | nil=>rw [ht,List.nil_append,List.nil_append] at h1;injection h1 with h1 _;exact h1.symm
  | cons x a=>have:=h3 x List.mem_cons_self;rw [hs,hs] at this;exact absurd this (Nat.lt_irrefl _)
def uD (s:List (List Bool)) (mo:List Nat) (a b:Nat):Bool:=(s.getD a []).getD b false || (decide (a<mo.length) && decide (mo.getD a 0 / 2 ^ b % 2=1))
def moR (s:List (List Bool)) (mo:List Nat) (n a:Nat):List Bool:=(List.range n).map (uD s mo a)
def moM (s:List (List Bool)) (mo:List Nat) (n:Nat):List (List Bool):=(List.range n).map (moR s mo n)
def alR (n _a:Nat):List Bool:=(List.range n).map fun _=>true
def alM (n:Nat):List (List Bool):=(List.range n).map (alR n)
theorem tab_at {g:Nat→Nat→Bool} {n:Nat} {a b:Int} (ha:a.toNat<n) (hb:b.toNat<n):Im ((List.range n).map fun a=>(List.range n).map (g a)) a b=g a.toNat b.toNat:=by
  unfold Im
  have h1:((List.range n).map fun a=>(List.range n).map (g a)).getD a.toNat []=(List.range n).map (g a.toNat):=by
    rw [List.getD_eq_getElem?_getD,List.getElem?_map,List.getElem?_range ha];rfl
  rw [h1,List.getD_eq_getElem?_getD,List.getElem?_map,List.getElem?_range hb];rfl
theorem saf_in {f:Ca} {s:List (List Bool)} (h:gG f s) {a b:Int} (hs:Im s a b=true):a.toNat<s.length∧b.toNat<s.length:=by
  unfold Im at hs
  rcases Nat.lt_or_ge a.toNat s.length with h1 | h1
  · refine ⟨h1,?_⟩
    rw [List.getD_eq_getElem?_getD (l:=s),List.getElem?_eq_getElem h1,Option.getD_some,List.getD_eq_getElem?_getD] at hs
    rcases Nat.lt_or_ge b.toNat s[a.toNat].length with h2 | h2
    · rw [h.r _ (List.getElem_mem h1),← h.n] at h2;exact h2
    · rw [List.getElem?_eq_none h2] at hs;cases hs
  · rw [List.getD_eq_getElem?_getD (l:=s),List.getElem?_eq_none h1] at hs
    cases hs
theorem moM_ok {f:Ca} {s:List (List Bool)} {mo:List Nat} (h:gG f s):gG f (moM s mo s.length) where
  n:=by unfold moM;rw [List.length_map,List.length_range,h.n]
  r r hr:=by
    obtain ⟨a,_,rfl⟩:=List.mem_map.1 hr
    unfold moR;rw [List.length_map,List.length_range,h.n]
theorem alM_ok {f:Ca} {s:List (List Bool)} (h:gG f s):gG f (alM s.length) where
  n:=by unfold alM;rw [List.length_map,List.length_range,h.n]
  r r hr:=by
    obtain ⟨a,_,rfl⟩:=List.mem_map.1 hr
    unfold alR;rw [List.length_map,List.length_range,h.n]
theorem mo_more {f:Ca} {s:List (List Bool)} {mo:List Nat} (h:gG f s) (a b:Int) (hs:Im s a b=true):Im (moM s mo s.length) a b=true:=by
  obtain ⟨h1,h2⟩:=saf_in h hs
  have e:Im (moM s mo s.length) a b=uD s mo a.toNat b.toNat:=tab_at (g:=uD s mo) h1 h2
  rw [e]
  unfold uD
  unfold Im at hs
  rw [hs];rfl
theorem al_all {f:Ca} {s:List (List Bool)} (h:gG f s) (a b:Int) (h1:0≤a) (h2:a<f.progs.length) (h3:0≤b) (h4:b<f.progs.length):Im (alM s.length) a b=true :=
  tab_at (g:=fun _ _=>true) (by rw [h.n];omega) (by rw [h.n];omega)
theorem rsiN_ok {G:Ghost} {Aa Ab:Option Addr} {ca cb:Nat} {a b:List Nat} (ha:Cg G (.slice Aa a.length ca) a) (hb:Cg G (.slice Ab b.length cb) b) (hal:a.length≤1000) (he:a=b) :
    Ai prog 25 [.slice Aa a.length ca,.slice Ab b.length cb] G [] fun r _ H'=>H'=[]∧r=Vt:=by
  have h1:=Nu ha
  have h2:=Nu hb
  have e1:a.length=(a.map fun x:Nat=>(x:Int)).length:=by rw [List.length_map]
  have e2:b.length=(b.map fun x:Nat=>(x:Int)).length:=by rw [List.length_map]
  rw [e1] at h1 hal ⊢
  rw [e2] at h2 ⊢
  exact uB h1 h2 hal (by rw [he])
theorem lmch_ok {G:Ghost} {sz p0 p1 p2 p3 n0 n1 n2 n3 n4:UInt8} {ed r0 r1 r2:Nat} {Aw Aq:Option Addr} {cw cq:Nat} {nw:List UInt8} {sf:List Nat} {Am:Option Addr} {cm:Nat} {mo:List Nat} (hT:Tab G) (hmo:kS G (.slice Am mo.length cm) mo) (hnw:Cv G (.slice Aw nw.length cw) nw) (hsq:kS G (.slice Aq sf.length cq) sf) (he:ed<4294967296) (h0:r0<65536) (h1:r1<65536) (h2:r2<65536) :
  Ai prog 8 [.agg #[.int .u8 (sz.toNat:Int),.int .u8 (p0.toNat:Int),.int .u8 (p1.toNat:Int),.int .u8 (p2.toNat:Int),.int .u8 (p3.toNat:Int),.int .u8 (n0.toNat:Int),.int .u8 (n1.toNat:Int),.int .u8 (n2.toNat:Int),.int .u8 (n3.toNat:Int),.int .u8 (n4.toNat:Int),.int .u32 (ed:Int),.int .u16 (r0:Int),.int .u16 (r1:Int),.int .u16 (r2:Int),.slice Aw nw.length cw,.slice Aq sf.length cq],.slice Am mo.length cm] G [] fun r _ H'=>H'=[]∧r=Vt:=by
 obtain ⟨f,hfe⟩:∃ z,z=Fq (Vb sz p0 p1 p2 p3 n0 n1 n2 n3 n4 ed r0 r1 r2):=⟨_,rfl⟩
 obtain ⟨nv,hnv⟩:∃ z,z=nN f nw:=⟨_,rfl⟩
 obtain ⟨s,hse⟩:∃ z,z=sfM sf f.progs.length:=⟨_,rfl⟩
 have hk:kO f nv:=by rw [hnv,hfe];exact nQ (Tt (sz:=sz) (p0:=p0) (p1:=p1) (p2:=p2) (p3:=p3) (n0:=n0) (n1:=n1) (n2:=n2) (n3:=n3) (n4:=n4) (ed:=ed) (r0:=r0) (r1:=r1) (r2:=r2) h0 h1 h2)
 have hso:gG f s:=by rw [hse];exact nO
 obtain ⟨u,hU⟩:=gM f
 have hu12:=Tv hU hk.r
 have hu6:=hk.u
 have hs16:s.length≤16:=by have h1:=(Pb hk.c).1;have h2:=hso.n;omega
 refine Ai.of_T [(0,_),(1,_)] func8 rfl ntmps8 sM rfl fun w0 hs=>?_
 have hnw0:=hnw
 have hsq0:=hsq
 have hT0:=hT
 have hmo0:=hmo
 refine Wt 2 [] hs rfl<|O_s (Sb hs rfl fun b2 _ hs=>Wp 4 [0] hs rfl<|O_s (Sc (bQ hT) hs rfl fun v1 G' H' _ hR hG20 hs=>?_))
 obtain ⟨rfl,rfl⟩:=hR
 replace hs:=hs.n rfl
 replace hnw:=hnw.mono hG20
 replace hsq:=hsq.mono hG20
 replace hT:=hT.mono hG20
 replace hmo:=hmo.mono hG20
 refine Wp 5 [0,0] hs rfl<|O_s (Sc (gL hfe hnv hse hnw hsq he h0 h1 h2) hs rfl fun v2 G' H' _ hR hG23 hs=>?_)
 obtain ⟨rfl,Ap,An,Ae,Ar,cp,cn,ce,cr,Au,cu,vs,rfl,hf,hu,hS⟩:=hR
 replace hs:=hs.n rfl
 replace hnw:=hnw.mono hG23
 replace hsq:=hsq.mono hG23
 replace hT:=hT.mono hG23
 replace hmo:=hmo.mono hG23
 obtain ⟨As,cs,rfl⟩:=Bg.slice hS
 refine Wp 3 [] hs rfl<|O_s (Sa hs zeroValue45 rfl fun b6 _ hs=>O_n (Du hs sizeOf45 rfl rfl (vs:=[_,_,_,_,_]) rfl (rfl) sM (cs':=[_,_,_,_,_]) rfl fun _ hs =>Wp 6 [0,0] hs rfl<|O_s (Sc (Lf hf hu hS hk hT hso hU) hs rfl fun v3 G' H' _ hR hG29 hs=>?_)))
 obtain ⟨rfl,vo,vc,o,rfl,hbs,hoN,hcI⟩:=hR
 replace hs:=hs.n rfl
 replace hnw:=hnw.mono hG29
 replace hsq:=hsq.mono hG29
 replace hT:=hT.mono hG29
 replace hmo:=hmo.mono hG29
 replace hf:=hf.mono hG29
 replace hu:=hu.mono hG29
 replace hS:=hS.mono hG29
 obtain ⟨la,lb,hla,hmin,hlt⟩:=Qe hbs
 have hin:o∈Em (En f nv).length [] (En f nv):=by rw [hla];simp
 obtain ⟨hoin,hol⟩:=bK rfl hin
 obtain ⟨C,hC⟩:∃ z,z=Gq f nv s u o:=⟨_,rfl⟩
 rw [← hC] at hcI
 have hCl:C.length≤12:=by have:=(eH (f:=f) (nv:=nv) (s:=s) (u:=u) (o:=o)).length_le;rw [← hC] at this;omega
 obtain ⟨Ao,co,rfl,_⟩:=id hoN
 obtain ⟨Ac,cc,rfl,_⟩:=id hcI
 refine Wp 3 [] hs rfl<|O_s (Sa hs zeroValue35 rfl fun b8 _ hs=>O_n (Du hs sizeOf35 rfl rfl (vs:=[_,_]) rfl (rfl) sM (cs':=[_,_]) rfl fun _ hs =>Wp 4 [6,1,5,6,7,8,9] hs rfl<|O_s (Bq hs underlying47 sizeOf64 zeroValue64 rfl rfl dC dC rfl (cs:=[]) rfl rfl fun v4 _ hs shl=>?_)))
 obtain ⟨bl32,rfl⟩:=shl
 refine O_s (Bq hs underlying47 sizeOf64 zeroValue64 rfl rfl dC dC rfl (cs:=[]) rfl rfl fun v5 _ hs shl=>?_)
 obtain ⟨bl33,rfl⟩:=shl
 refine Wp 8 [0,0] hs rfl ?_
 have hs:=hs.f4.f4.f4.f3.f4
 obtain ⟨Gp0,hGp⟩:=hs.name
 subst hGp
 have hf_0:=hf
 have hu_0:=hu
 have hS_0:=hS
 have hoN_0:=hoN
 have hcI_0:=hcI
 refine Zl [1,5,6,7,8,9,10,11,12] (fun m E w=>∃ (a:Nat) (w10 w11:Value) (css dss:List (List Value)) (G2:Ghost),a≤s.length∧Oc G2 css ((List.range a).map (moR s mo s.length))∧Oc G2 dss ((List.range a).map (alR s.length))∧Pr Gp0 G2∧m=s.length-a∧E=⟨[],[(1,.slice Am mo.length cm),(5,Vt),(6,Vp b6),(7,.slice As s.length cs),(8,Vp b8),(9,Vi 0),(10,w10),(11,w11),(12,Vi (a:Int))]⟩∧St ⟨w0,G,Bl []⟩ G2 [.row 64 1 w10 a css.flatten,.row 64 1 w11 a dss.flatten,.blk b8 35 [.slice Ao o.length co,.slice Ac C.length cc],.blk b6 45 [.slice Ap f.progs.length cp,.slice An f.nodes.length cn,.slice Ae f.edges.length ce,.slice Ar f.routes.length cr,.slice Au nv.length cu],.blk b2 32 [.int .u8 (sz.toNat:Int),.int .u8 (p0.toNat:Int),.int .u8 (p1.toNat:Int),.int .u8 (p2.toNat:Int),.int .u8 (p3.toNat:Int),.int .u8 (n0.toNat:Int),.int .u8 (n1.toNat:Int),.int .u8 (n2.toNat:Int),.int .u8 (n3.toNat:Int),.int .u8 (n4.toNat:Int),.int .u32 (ed:Int),.int .u16 (r0:Int),.int .u16 (r1:Int),.int .u16 (r2:Int),.slice Aw nw.length cw,.slice Aq sf.length cq]] w) rfl (⟨0,_,_,[],[],_,by omega,⟨trivial,by simp⟩,⟨trivial,by simp⟩,Pr.refl _,rfl,rfl,hs⟩) fun m E w hI=>?_
 obtain ⟨a,w10,w11,css,dss,G2,ha,hA,hD,hlg0,rfl,rfl,hs⟩:=hI
 have hf:=hf_0.mono hlg0
 have hu:=hu_0.mono hlg0
 have hS:=hS_0.mono hlg0
 have hoN:=hoN_0.mono hlg0
 have hcI:=hcI_0.mono hlg0
 have hnw:=hnw0.mono hs.le
 have hsq:=hsq0.mono hs.le
 have hT:=hT0.mono hs.le
 have hmo:=hmo0.mono hs.le
 refine Wt 6 [] hs rfl<|Zy hs (Yc rfl (fun h37=>?_) fun h37=>?_)
 ·
  refine Wp 7 [0] hs rfl<|O_s (Bq hs underlying64 sizeOf4 zeroValue4 rfl rfl dC dC rfl (cs:=[]) rfl rfl fun v6 _ hs shl=>?_)
  obtain ⟨bl40,rfl⟩:=shl
  refine O_s (Bq hs underlying64 sizeOf4 zeroValue4 rfl rfl dC dC rfl (cs:=[]) rfl rfl fun v7 _ hs shl=>?_)
  obtain ⟨bl41,rfl⟩:=shl
  refine Wp 8 [0,0] hs rfl ?_
  have hs:=hs.f6.f6.f6.f6.f6.f5.f6
  obtain ⟨Gp1,hGp⟩:=hs.name
  subst hGp
  have hf_1:=hf
  have hu_1:=hu
  have hS_1:=hS
  have hoN_1:=hoN
  have hcI_1:=hcI
  have hlg0_1:=hlg0
  refine Zl [1,5,6,7,8,9,10,11,12,13,14,15] (fun m E w=>∃ (b:Nat) (w13 w14:Value) (G2:Ghost),b≤s.length∧Oc G2 css ((List.range a).map (moR s mo s.length))∧Oc G2 dss ((List.range a).map (alR s.length))∧Pr Gp1 G2∧m=s.length - b∧E=⟨[],[(1,.slice Am mo.length cm),(5,Vt),(6,Vp b6),(7,.slice As s.length cs),(8,Vp b8),(9,Vi 0),(10,w10),(11,w11),(12,Vi (a:Int)),(13,w13),(14,w14),(15,Vi (b:Int))]⟩∧St ⟨w0,G,Bl []⟩ G2 [.row 4 1 w13 b (((List.range b).map (uD s mo a)).map Be),.row 4 1 w14 b (((List.range b).map fun _=>true).map Be),.row 64 1 w10 a css.flatten,.row 64 1 w11 a dss.flatten,.blk b8 35 [.slice Ao o.length co,.slice Ac C.length cc],.blk b6 45 [.slice Ap f.progs.length cp,.slice An f.nodes.length cn,.slice Ae f.edges.length ce,.slice Ar f.routes.length cr,.slice Au nv.length cu],.blk b2 32 [.int .u8 (sz.toNat:Int),.int .u8 (p0.toNat:Int),.int .u8 (p1.toNat:Int),.int .u8 (p2.toNat:Int),.int .u8 (p3.toNat:Int),.int .u8 (n0.toNat:Int),.int .u8 (n1.toNat:Int),.int .u8 (n2.toNat:Int),.int .u8 (n3.toNat:Int),.int .u8 (n4.toNat:Int),.int .u32 (ed:Int),.int .u16 (r0:Int),.int .u16 (r1:Int),.int .u16 (r2:Int),.slice Aw nw.length cw,.slice Aq sf.length cq]] w) rfl (⟨0,_,_,_,by omega,hA,hD,Pr.refl _,rfl,rfl,hs⟩) fun m E w hI=>?_
  obtain ⟨b,w13,w14,G2,hb,hA,hD,hlg1,rfl,rfl,hs⟩:=hI
  have hf:=hf_1.mono hlg1
  have hu:=hu_1.mono hlg1
  have hS:=hS_1.mono hlg1
  have hoN:=hoN_1.mono hlg1
  have hcI:=hcI_1.mono hlg1
  have hlg0:=hlg0_1.mono hlg1
  have hnw:=hnw0.mono hs.le
  have hsq:=hsq0.mono hs.le
  have hT:=hT0.mono hs.le
  have hmo:=hmo0.mono hs.le
  refine Wt 6 [] hs rfl<|Zy hs (Yc rfl (fun h45=>?_) fun h45=>?_)
  ·
   refine Wp 10 [0] hs rfl<|Zy hs (Bx hS a underlying47 sizeOf64 rfl rfl rfl oM fun p51 c51 hp51 hc51 hR51=>?_)
   obtain ⟨ur,rfl,hBr⟩:=hR51
   obtain ⟨Ar,cr,rfl,_⟩:=id hBr
   have hbl:b<(s[a]'oM).length:=by rw [hso.r _ (List.getElem_mem _),← hso.n];omega
   obtain ⟨sv,hsa⟩:∃ z,z=(s[a]'oM)[b]'hbl:=⟨_,rfl⟩
   have hsv:sv=(s.getD a []).getD b false:=by rw [hsa,List.getD_eq_getElem?_getD (l:=s),List.getElem?_eq_getElem oM,Option.getD_some,List.getD_eq_getElem?_getD,List.getElem?_eq_getElem hbl];rfl
   refine Zy hs (Yg rfl (hp51 0 _ rfl)<|Wp 1 [] hs rfl<|Zy hs (Hs b underlying64 sizeOf4 hBr rfl rfl rfl (jS (h:=hbl) hsa) fun p54 hp54 =>Zy hs (Yg rfl (hp54)<|Wp 1 [] hs rfl ?_)))
   cases sv
   ·
    refine Wp 3 [] hs rfl<|Zg hs rfl (Yc rfl (fun h60=>?_) fun h60=>?_)
    ·
     refine Wp 3 [] hs rfl<|Zg hs rfl (Hs a underlying30 sizeOf25 hmo rfl rfl rfl (u16_at oM) fun p64 hp64 =>Zg hs rfl (Yg rfl (hp64)<|Wp 1 [] hs rfl<|Zg hs rfl (Vl (c:=(((mo.getD a 0 / 2 ^ b):Nat):Int)) rfl rfl oM (shr16 _ _ oM)<|Zg hs rfl (Qs (c:=(((mo.getD a 0 / 2 ^ b) % 2:Nat):Int)) rfl rfl sM (bM _)<|Zg hs rfl (Yc rfl (fun h69=>?_) fun h69=>?_)))))
     ·
      refine Wp 2 [] hs rfl<|O_s (Bq hs underlying64 sizeOf4 zeroValue4 rfl rfl dC dC rfl (cs:=[_]) rfl rfl fun v8 _ hs _=>?_)
      obtain ⟨_,hG72,hl72,hs⟩:=hs.fixRow noM
      replace hA:=hA.mono hG72
      replace hD:=hD.mono hG72
      replace hlg1:=hlg1.mono hG72
      refine O_s (Bd hs underlying64 bT rfl dC rfl rfl (hl72) (Ek rfl) oM Ii fun v9 _ hs =>Wp 4 [12,1,5,6,7,8,9,10,11,12,13,14,15] hs rfl<|O_s (Bq hs underlying64 sizeOf4 zeroValue4 rfl rfl dC dC rfl (cs:=[_]) rfl rfl fun v10 _ hs _=>?_))
      obtain ⟨_,hG75,hl75,hs⟩:=hs.fixRow noM
      replace hA:=hA.mono hG75
      replace hD:=hD.mono hG75
      replace hlg1:=hlg1.mono hG75
      refine O_s (Bd hs.f1 underlying64 bT rfl dC rfl rfl (hl75) (Ek rfl) oM Ii fun v11 _ hs =>Wp 4 [0] hs rfl<|Zy hs (Ya (s:=((b+1:Nat):Int)) rfl<|Wp 1 [] hs rfl ?_))
      have hsb:uD s mo a b=true:=by unfold uD;rw [← hsv,decide_eq_true (show a<mo.length by omega),decide_eq_true (show mo.getD a 0 / 2 ^ b % 2=1 by omega)];rfl
      have hs:=hs.f6.f6.f6.f6.f6.f5.f6
      refine Zx [1,5,6,7,8,9,10,11,12,13,14,15] rfl ⟨b+1,_,_,_,by omega,hA,hD,hlg1,rfl,rfl,Bw (hs.weak hs.le (Ghost.le.refl _) (List.sublist_append_left [_,_,_,_,_,_,_] _)) Z9⟩
     refine Wp 2 [] hs rfl<|O_s (Bq hs underlying64 sizeOf4 zeroValue4 rfl rfl dC dC rfl (cs:=[_]) rfl rfl fun v12 _ hs _=>?_)
     obtain ⟨_,hG72,hl72,hs⟩:=hs.fixRow noM
     replace hA:=hA.mono hG72
     replace hD:=hD.mono hG72
     replace hlg1:=hlg1.mono hG72
     refine O_s (Bd hs underlying64 bT rfl dC rfl rfl (hl72) (Ek rfl) oM Ii fun v13 _ hs =>Wp 4 [12,1,5,6,7,8,9,10,11,12,13,14,15] hs rfl<|O_s (Bq hs underlying64 sizeOf4 zeroValue4 rfl rfl dC dC rfl (cs:=[_]) rfl rfl fun v14 _ hs _=>?_))
     obtain ⟨_,hG75,hl75,hs⟩:=hs.fixRow noM
     replace hA:=hA.mono hG75
     replace hD:=hD.mono hG75
     replace hlg1:=hlg1.mono hG75
     refine O_s (Bd hs.f1 underlying64 bT rfl dC rfl rfl (hl75) (Ek rfl) oM Ii fun v15 _ hs =>Wp 4 [0] hs rfl<|Zy hs (Ya (s:=((b+1:Nat):Int)) rfl<|Wp 1 [] hs rfl ?_))
     have hsb:uD s mo a b=false:=by unfold uD;rw [← hsv,decide_eq_true (show a<mo.length by omega),decide_eq_false (show ¬ mo.getD a 0 / 2 ^ b % 2=1 by omega)];rfl
     have hs:=hs.f6.f6.f6.f6.f6.f5.f6
     refine Zx [1,5,6,7,8,9,10,11,12,13,14,15] rfl ⟨b+1,_,_,_,by omega,hA,hD,hlg1,rfl,rfl,Bw (hs.weak hs.le (Ghost.le.refl _) (List.sublist_append_left [_,_,_,_,_,_,_] _)) Z9⟩
    refine Wp 11 [] hs rfl<|O_s (Bq hs underlying64 sizeOf4 zeroValue4 rfl rfl dC dC rfl (cs:=[_]) rfl rfl fun v16 _ hs _=>?_)
    obtain ⟨_,hG72,hl72,hs⟩:=hs.fixRow noM
    replace hA:=hA.mono hG72
    replace hD:=hD.mono hG72
    replace hlg1:=hlg1.mono hG72
    refine O_s (Bd hs underlying64 bT rfl dC rfl rfl (hl72) (Ek rfl) oM Ii fun v17 _ hs =>Wp 4 [12,1,5,6,7,8,9,10,11,12,13,14,15] hs rfl<|O_s (Bq hs underlying64 sizeOf4 zeroValue4 rfl rfl dC dC rfl (cs:=[_]) rfl rfl fun v18 _ hs _=>?_))
    obtain ⟨_,hG75,hl75,hs⟩:=hs.fixRow noM
    replace hA:=hA.mono hG75
    replace hD:=hD.mono hG75
    replace hlg1:=hlg1.mono hG75
    refine O_s (Bd hs.f1 underlying64 bT rfl dC rfl rfl (hl75) (Ek rfl) oM Ii fun v19 _ hs =>Wp 4 [0] hs rfl<|Zy hs (Ya (s:=((b+1:Nat):Int)) rfl<|Wp 1 [] hs rfl ?_))
    have hsb:uD s mo a b=false:=by unfold uD;rw [← hsv,decide_eq_false (show ¬ a<mo.length by omega)];rfl
    have hs:=hs.f6.f6.f6.f6.f6.f5.f6
    refine Zx [1,5,6,7,8,9,10,11,12,13,14,15] rfl ⟨b+1,_,_,_,by omega,hA,hD,hlg1,rfl,rfl,Bw (hs.weak hs.le (Ghost.le.refl _) (List.sublist_append_left [_,_,_,_,_,_,_] _)) Z9⟩
   refine Wp 5 [] hs rfl<|Dc 61 rfl rfl<|Dc 61 rfl rfl<|Dc 61 rfl rfl<|Dc 61 rfl rfl<|Dc 61 rfl rfl<|Dc 61 rfl rfl<|Dc 61 rfl rfl<|Dc 61 rfl rfl<|Wp 2 [] hs rfl<|O_s (Bq hs underlying64 sizeOf4 zeroValue4 rfl rfl dC dC rfl (cs:=[_]) rfl rfl fun v20 _ hs _=>?_)
   obtain ⟨_,hG72,hl72,hs⟩:=hs.fixRow noM
   replace hA:=hA.mono hG72
   replace hD:=hD.mono hG72
   replace hlg1:=hlg1.mono hG72
   refine O_s (Bd hs underlying64 bT rfl dC rfl rfl (hl72) (Ek rfl) oM Ii fun v21 _ hs =>Wp 4 [12,1,5,6,7,8,9,10,11,12,13,14,15] hs rfl<|O_s (Bq hs underlying64 sizeOf4 zeroValue4 rfl rfl dC dC rfl (cs:=[_]) rfl rfl fun v22 _ hs _=>?_))
   obtain ⟨_,hG75,hl75,hs⟩:=hs.fixRow noM
   replace hA:=hA.mono hG75
   replace hD:=hD.mono hG75
   replace hlg1:=hlg1.mono hG75
   refine O_s (Bd hs.f1 underlying64 bT rfl dC rfl rfl (hl75) (Ek rfl) oM Ii fun v23 _ hs =>Wp 4 [0] hs rfl<|Zy hs (Ya (s:=((b+1:Nat):Int)) rfl<|Wp 1 [] hs rfl ?_))
   have hsb:uD s mo a b=true:=by unfold uD;rw [← hsv];rfl
   have hs:=hs.f6.f6.f6.f6.f6.f5.f6
   refine Zx [1,5,6,7,8,9,10,11,12,13,14,15] rfl ⟨b+1,_,_,_,by omega,hA,hD,hlg1,rfl,rfl,Bw (hs.weak hs.le (Ghost.le.refl _) (List.sublist_append_left [_,_,_,_,_,_,_] _)) Z9⟩
  refine Wp 3 [0] hs rfl ?_
  have hsN:=hs.fixRow noM
  clear hs
  obtain ⟨_,hG_hvb,hvb,hs⟩:=hsN
  replace hA:=hA.mono hG_hvb
  replace hD:=hD.mono hG_hvb
  replace hlg0:=hlg0.mono hG_hvb
  have hbM:Hc _ _ (moR s mo s.length a):=bN hvb (by simp [moR,alR];omega) (by rw [show b=s.length from by omega];rfl)
  clear hvb
  obtain ⟨A13,c13,hwf,_⟩:=id hbM
  rw [hwf] at hbM ⊢
  clear hwf
  refine Wu 4 [] hs rfl<|O_s (Bq hs underlying47 sizeOf64 zeroValue64 rfl rfl dC dC rfl (cs:=[_]) rfl rfl fun v24 _ hs _=>?_)
  obtain ⟨_,hG79,hl79,hs⟩:=hs.fixRow noM
  replace hA:=hA.mono hG79
  replace hD:=hD.mono hG79
  replace hlg0:=hlg0.mono hG79
  replace hbM:=hbM.mono hG79
  refine O_s (Bd hs.f1 underlying47 TI64 rfl dC rfl rfl (hl79) (Ek rfl) oM oM fun v25 _ hs =>Wp 2 [0] hs rfl ?_)
  have hs:=hs.f1
  have hsN:=hs.fixRow noM
  clear hs
  obtain ⟨_,hG_hvb,hvb,hs⟩:=hsN
  replace hA:=hA.mono hG_hvb
  replace hD:=hD.mono hG_hvb
  replace hlg0:=hlg0.mono hG_hvb
  replace hbM:=hbM.mono hG_hvb
  have hbA:Hc _ _ (alR s.length a):=bN hvb (by simp [moR,alR];omega) (by rw [show b=s.length from by omega];rfl)
  clear hvb
  obtain ⟨A14,c14,hwf,_⟩:=id hbA
  rw [hwf] at hbA ⊢
  clear hwf
  refine Wu 3 [] hs rfl<|O_s (Bq hs underlying47 sizeOf64 zeroValue64 rfl rfl dC dC rfl (cs:=[_]) rfl rfl fun v26 _ hs _=>?_)
  obtain ⟨_,hG83,hl83,hs⟩:=hs.fixRow noM
  replace hA:=hA.mono hG83
  replace hD:=hD.mono hG83
  replace hlg0:=hlg0.mono hG83
  replace hbM:=hbM.mono hG83
  replace hbA:=hbA.mono hG83
  refine O_s (Bd hs.f1 underlying47 TI64 rfl dC rfl rfl (hl83) (Ek rfl) oM oM fun v27 _ hs =>Wp 4 [9,1,5,6,7,8,9,10,11,12] hs rfl<|Zy hs (Ya (s:=((a+1:Nat):Int)) rfl<|Wp 1 [] hs rfl ?_))
  have hs:=hs.f4.f4.f4.f3.f4
  refine Zx [1,5,6,7,8,9,10,11,12] rfl ⟨a+1,_,_,css++[[.slice A13 (moR s mo s.length a).length c13]],dss++[[.slice A14 (alR s.length a).length c14]],_,by omega,by rw [List.range_succ,List.map_append];exact hA.snoc ⟨_,rfl,hbM⟩ rfl,by rw [List.range_succ,List.map_append];exact hD.snoc ⟨_,rfl,hbA⟩ rfl,hlg0,rfl,rfl,Bw (hs.weak hs.le (Ghost.le.refl _) (List.sublist_append_left [_,_,_,_,_] _)) sM⟩
 refine Wp 3 [0] hs rfl ?_
 have hsN:=hs.fixRow noM
 clear hs
 obtain ⟨_,hG_hvt,hvt,hs⟩:=hsN
 replace hT:=hT.mono hG_hvt
 replace hA:=hA.mono hG_hvt
 replace hD:=hD.mono hG_hvt
 replace hf:=hf.mono hG_hvt
 replace hu:=hu.mono hG_hvt
 have hTt:eF _ _ (moM s mo s.length):=(show Oc _ _ (moM s mo s.length) from by rw [show a=s.length from by omega] at hA;exact hA).fin (by rw [show a=s.length from by omega] at hvt;exact hvt) (by simp [moM,alM])
 clear hvt
 obtain ⟨tt,htt⟩:∃ z,z=moM s mo s.length:=⟨_,rfl⟩
 rw [← htt] at hTt
 obtain ⟨At,ct,hwf⟩:=Bg.slice hTt
 rw [hwf] at hTt ⊢
 clear hwf
 have hsN:=hs.fixRow noM
 clear hs
 obtain ⟨_,hG_hvt,hvt,hs⟩:=hsN
 replace hT:=hT.mono hG_hvt
 replace hD:=hD.mono hG_hvt
 replace hf:=hf.mono hG_hvt
 replace hu:=hu.mono hG_hvt
 replace hTt:=hTt.mono hG_hvt
 have hTa:eF _ _ (alM s.length):=(show Oc _ _ (alM s.length) from by rw [show a=s.length from by omega] at hD;exact hD).fin (by rw [show a=s.length from by omega] at hvt;exact hvt) (by simp [moM,alM])
 clear hvt
 obtain ⟨ta,hta⟩:∃ z,z=alM s.length:=⟨_,rfl⟩
 rw [← hta] at hTa
 obtain ⟨Aa,ca,hwf⟩:=Bg.slice hTa
 rw [hwf] at hTa ⊢
 clear hwf
 have hsott:gG f tt:=by rw [htt];exact moM_ok hso
 have hsota:gG f ta:=by rw [hta];exact alM_ok hso
 refine Wu 4 [1] hs rfl<|O_s (Sc (Lf hf hu hTt hk hT hsott hU) hs rfl fun v28 G' H' _ hR hG88 hs=>?_)
 obtain ⟨rfl,vo,vc,o2,rfl,hbs2,hoN2,hcI2⟩:=hR
 replace hs:=hs.n rfl
 replace hT:=hT.mono hG88
 replace hf:=hf.mono hG88
 replace hu:=hu.mono hG88
 replace hTa:=hTa.mono hG88
 obtain ⟨C2,hC2⟩:∃ z,z=Gq f nv tt u o2:=⟨_,rfl⟩
 rw [← hC2] at hcI2
 obtain ⟨Ao2,co2,rfl,_⟩:=id hoN2
 obtain ⟨Ac2,cc2,rfl,_⟩:=id hcI2
 refine Wp 3 [] hs rfl<|O_s (Sa hs zeroValue35 rfl fun b16 _ hs=>O_n (Du hs sizeOf35 rfl rfl (vs:=[_,_]) rfl (rfl) sM (cs':=[_,_]) rfl fun _ hs =>Wp 6 [0,2] hs rfl<|O_s (Sc (Lf hf hu hTa hk hT hsota hU) hs rfl fun v29 G' H' _ hR hG94 hs=>?_)))
 obtain ⟨rfl,vo,vc,o3,rfl,hbs3,hoN3,hcI3⟩:=hR
 replace hs:=hs.n rfl
 replace hf:=hf.mono hG94
 replace hu:=hu.mono hG94
 obtain ⟨C3,hC3⟩:∃ z,z=Gq f nv ta u o3:=⟨_,rfl⟩
 rw [← hC3] at hcI3
 obtain ⟨Ao3,co3,rfl,_⟩:=id hoN3
 obtain ⟨Ac3,cc3,rfl,_⟩:=id hcI3
 refine Wp 3 [] hs rfl<|O_s (Sa hs zeroValue35 rfl fun b18 _ hs=>O_n (Du hs sizeOf35 rfl rfl (vs:=[_,_]) rfl (rfl) sM (cs':=[_,_]) rfl fun _ hs =>Wp 2 [8,5,6,8,9,16,17,18,19] hs rfl ?_))
 have hC2l:C2.length≤C.length:=by obtain ⟨_,_,_,hm2,_⟩:=Qe hbs2;rw [hC2,hC];exact Nat.le_trans (hm2 o hin) (cl_more (by rw [htt];exact mo_more hso))
 have hal:∀ z,Gq f nv ta u z=[]:=fun z=>cl_none hk hU (by rw [hta];exact al_all hso)
 have hC30:C3.length=0:=by rw [hC3,hal];rfl
 have ho3:o3=En f nv:=uC hbs3 hal
 refine Wu 1 [] hs rfl<|Bc [0,1,2,3,4,5,6,7,8,9,10,11,12,13,14,15,16,17,18,19,20,21,22,23,24,25,26,27,28,29,30,31,32,33,34,35] hs kR ?_
 replace hs:=hs.drew
 refine Xr [0,1,2,3,4,5,6,7,8,9,10,11,12,13,14,15,16] [1,1,1,2] hs rfl<|Xt 17 hs rfl (Hk rfl rfl rfl oM<|Xr [18,19,20,21,22] [1,0] hs rfl<|Xt 23 hs rfl (Hk rfl rfl rfl oM<|Xr [24,25,26,27,28] [0,0,3] hs rfl ?_))
 have hle:=hs.le
 refine Xo 29 rfl (Sc (gK hf hu hk.g.z hk.n) hs rfl fun v30 G' H' _ hR hG126 hs=>?_)
 obtain ⟨rfl,h126⟩:=hR
 obtain ⟨A126,c126,rfl,_⟩:=id h126
 replace hs:=hs.n rfl
 replace hoN3:=hoN3.mono hG126
 refine Ba hs hle hG126 (List.Sublist.refl _) ?_
 have hle:=hs.le
 refine Xo 30 rfl (Sc (rsiN_ok hoN3 h126 (by rw [ho3];omega) ho3) hs rfl fun v31 G' H' _ hR hG127 hs=>?_)
 obtain ⟨rfl,rfl⟩:=hR
 replace hs:=hs.n rfl
 refine Ba hs hle hG127 (List.Sublist.refl _)<|Xr [31,32,33,34,35] [] hs rfl<|Xe (Zk [4] rfl<|Ah<|Zz results8 rfl ?_)
 exact ⟨_,[],hs.done,rfl,rfl⟩
end Go.Proofs.YtngdgnolkilheaaGreatDoor
