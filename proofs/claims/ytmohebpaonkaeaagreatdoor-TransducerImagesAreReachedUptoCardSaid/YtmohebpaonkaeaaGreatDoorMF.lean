/- Part 6 of the walk through the functions that the laws of package fleet call: each function's contract, without conditions but those that its statement names. -/
import Derived.Test.YtmohebpaonkaeaaGreatDoorME
set_option maxHeartbeats 4000000
set_option maxRecDepth 10000
set_option linter.unusedVariables false
set_option linter.unusedSimpArgs false
set_option linter.unusedSectionVars false
namespace Go.Proofs.YtmohebpaonkaeaaGreatDoor
open Go Go.Ex Go.RowKit Go.Proofs.Tryz
variable {G:Ah} {x:Cx} {W:World→Prop} {E:Env} {K:Value→Prop} {d:Option Tmp} {ty:TypeId} {pos:String} {aft:Array Edge} {g:Option (Nat×Bool)} {o p:Operand} {xt yt:TypeId}
theorem Tt {c:List Nat} {x:UInt8} (h:c.length=4∧∀ w∈c,w<W64):(Hp c x).length=4∧∀ w∈Hp c x,w<W64:=by first|exact addF_ok h x|exact Cn7.addF_ok h x
theorem zero4:([0,0,0,0]:List Nat).length=4∧∀ w∈([0,0,0,0]:List Nat),w<W64:=⟨rfl,by decide⟩
theorem cls4_rep (n:Nat):Nn (List.replicate n [0,0,0,0]):=fun c hc=>by rw [Aba hc];exact zero4
theorem cD {l:List (List Nat)} {i:Nat} {c:List Nat} (h:Nn l) (hc:c.length=4∧∀ w∈c,w<W64):Nn (l.set i c):=fun d hd=>by
  rcases AbB hd with hd | rfl
  · exact h d hd
  · exact hc
theorem vR (n:Nat):Dq (List.replicate n [0,0,0,0])=(List.replicate n [Bb 0,Bb 0,Bb 0,Bb 0]).flatten:=by unfold Dq;rw [Abk];rfl
theorem gY {n k c:Nat} {l:List (List Nat)} (hc:uH n k=c) (h:c<l.length):letP n l k=l.set c (Hp l[c] (UInt8.ofNat k)):=by unfold letP;rw [hc,Cn7.gD h]
theorem lW {n:Nat} (hn:n≤3) :
  Ba prog 42 [Vi (n:Int)] G [] fun r G' H'=>H'=[]∧Hl G' r (jS n):=by
 refine Ba.of_T [(0,_)] func42 rfl ntmps42 sM rfl fun w0 hs =>Wt 7 [0] hs rfl<|Zy hs (Ya (s:=((n+1:Nat):Int)) rfl<|O_s (pY (n:=n+1) hs underlying28 jY rfl rfl rfl oM oM fun b8 _ hs=>?_))
 replace hs:=Bh (H':=[.row 86 4 (Vs b8 (n+1) (n+1)) (n+1) (Dq (List.replicate (n+1) [0,0,0,0]))]) hs (by rw [vR];rfl)
 refine Wp 7 [0,0] hs rfl<|Zl [0,3,4] (fun m E w=>∃ (k:Nat) (l:List (List Nat)) (G2:Ah),k≤256∧l=(List.range k).foldl (letP n) (List.replicate (n+1) [0,0,0,0])∧Nn l∧l.length=n+1∧m=256-k∧E=⟨[],[(0,Vi (n:Int)),(3,Vs b8 (n+1) (n+1)),(4,Vi (k:Int))]⟩∧St ⟨w0,G,Bj []⟩ G2 [.row 86 4 (Vs b8 (n+1) (n+1)) (n+1) (Dq l)] w) rfl (⟨0,_,_,by omega,rfl,cls4_rep _,AaJ,rfl,rfl,hs⟩) fun m E w hI=>?_
 obtain ⟨k,l,G2,hk9,hle,hc4,hll,rfl,rfl,hs⟩:=hI
 refine Wt 4 [] hs rfl<|Zy hs (Yc rfl (fun h10=>?_) fun h10=>?_)
 ·
  refine Wp 14 [0,0] hs rfl<|Zy hs (Yc rfl (fun h15=>?_) fun h15=>?_)
  ·
   refine Wp 3 [] hs rfl<|Zg hs rfl (Ya (s:=((97+n:Nat):Int)) rfl<|Zg hs rfl (Yc rfl (fun h20=>?_) fun h20=>?_))
   ·
    refine Wp 5 [0] hs rfl ?_
    obtain ⟨cx,hcx⟩:∃ z,z=k-97:=⟨_,rfl⟩
    refine Zy hs (Ll (c:=(cx:Int)) rfl rfl oM oM<|Wp 2 [0] hs rfl ?_)
    have hcl:cx<l.length:=by omega
    refine Wu 5 [] hs rfl<|Zy hs (Cl cx underlying28 sizeOf86 rfl rfl rfl oM<|Zy hs (Ge 0 rfl isAgg86 sizeOf86 rfl oM (Hz hc4 hcl) Z28<|Wp 1 [] hs rfl<|O_s (Sp (bZ (x:=UInt8.ofNat k) (hc4 _ (AaD hcl)).1 (by rw [u8k (show k<256 by omega)])) hs rfl fun v1 G' _ hR hG31 hs=>?_)))
    obtain rfl:=hR
    refine Zy hs (Cl cx underlying28 sizeOf86 rfl rfl rfl oM<|O_n (Gw (vs:=(Hp (l[cx]'hcl) (UInt8.ofNat k)).map Bb) hs sizeOf86 rfl rfl Z19 (Dk _) oM fun _ hs =>Wp 3 [3,0,3,4] hs rfl<|Zy hs (Ya (s:=((k+1:Nat):Int)) rfl<|Wp 1 [] hs rfl ?_)))
    have hlp:=gY (n:=n) (k:=k) (by unfold uH;rw [if_pos ⟨by omega,by omega⟩];omega) hcl
    refine Zx [0,3,4] rfl ⟨k+1,l.set cx (Hp (l[cx]'hcl) (UInt8.ofNat k)),_,by omega,by rw [AbC,Aap,← hle];exact hlp.symm,cD hc4 (Tt (hc4 _ (AaD hcl))),by rw [AaP];exact hll,rfl,rfl,Bh hs (by rw [Iy hc4 hcl])⟩
   refine Wp 4 [0] hs rfl ?_
   have hcl:n<l.length:=by omega
   refine Wu 5 [] hs rfl<|Zy hs (Cl n underlying28 sizeOf86 rfl rfl rfl oM<|Zy hs (Ge 0 rfl isAgg86 sizeOf86 rfl oM (Hz hc4 hcl) Z28<|Wp 1 [] hs rfl<|O_s (Sp (bZ (x:=UInt8.ofNat k) (hc4 _ (AaD hcl)).1 (by rw [u8k (show k<256 by omega)])) hs rfl fun v2 G' _ hR hG31 hs=>?_)))
   obtain rfl:=hR
   refine Zy hs (Cl n underlying28 sizeOf86 rfl rfl rfl oM<|O_n (Gw (vs:=(Hp (l[n]'hcl) (UInt8.ofNat k)).map Bb) hs sizeOf86 rfl rfl Z19 (Dk _) oM fun _ hs =>Wp 3 [0] hs rfl<|Zy hs (Ya (s:=((k+1:Nat):Int)) rfl<|Wp 1 [] hs rfl ?_)))
   have hlp:=gY (n:=n) (k:=k) (by unfold uH;rw [if_neg oM]) hcl
   refine Zx [0,3,4] rfl ⟨k+1,l.set n (Hp (l[n]'hcl) (UInt8.ofNat k)),_,by omega,by rw [AbC,Aap,← hle];exact hlp.symm,cD hc4 (Tt (hc4 _ (AaD hcl))),by rw [AaP];exact hll,rfl,rfl,Bh hs (by rw [Iy hc4 hcl])⟩
  refine Wp 9 [0] hs rfl ?_
  have hcl:n<l.length:=by omega
  refine Wu 5 [] hs rfl<|Zy hs (Cl n underlying28 sizeOf86 rfl rfl rfl oM<|Zy hs (Ge 0 rfl isAgg86 sizeOf86 rfl oM (Hz hc4 hcl) Z28<|Wp 1 [] hs rfl<|O_s (Sp (bZ (x:=UInt8.ofNat k) (hc4 _ (AaD hcl)).1 (by rw [u8k (show k<256 by omega)])) hs rfl fun v3 G' _ hR hG31 hs=>?_)))
  obtain rfl:=hR
  refine Zy hs (Cl n underlying28 sizeOf86 rfl rfl rfl oM<|O_n (Gw (vs:=(Hp (l[n]'hcl) (UInt8.ofNat k)).map Bb) hs sizeOf86 rfl rfl Z19 (Dk _) oM fun _ hs =>Wp 3 [0] hs rfl<|Zy hs (Ya (s:=((k+1:Nat):Int)) rfl<|Wp 1 [] hs rfl ?_)))
  have hlp:=gY (n:=n) (k:=k) (by unfold uH;rw [if_neg oM]) hcl
  refine Zx [0,3,4] rfl ⟨k+1,l.set n (Hp (l[n]'hcl) (UInt8.ofNat k)),_,by omega,by rw [AbC,Aap,← hle];exact hlp.symm,cD hc4 (Tt (hc4 _ (AaD hcl))),by rw [AaP];exact hll,rfl,rfl,Bh hs (by rw [Iy hc4 hcl])⟩
 refine Wp 3 [0] hs rfl<|Wu 5 [0] hs rfl<|As ?_
 obtain rfl:k=256:=by omega
 obtain ⟨_,hG_hfl,hfl,hs⟩:=hs.fixRow noM
 refine Zz results42 rfl ?_
 exact hs.q (by rw [show jS n=l from hle.symm];exact Px (by rw [hll];exact hfl) hc4)
theorem cG (a s:Nat) (hs:s<8):(a:Int).fdiv (2 ^ (min ((s:Int)).toNat IntKind.u8.bits))=((a / 2 ^ s:Nat):Int):=by
  rw [AbE,Nat.min_eq_left (by show s≤8;omega),Int.fdiv_eq_ediv_of_nonneg _ (by exact Int.le_of_lt (Int.pow_pos dC))]
  simp
def rowD (x:Qe) (s:Nat):List Nat:=(List.range (x.k+1)).map fun k=>toD x (s*(x.k+1)+k)
def bitD (a s:Nat):Bool:=decide (a / 2 ^ s % 2=1)
theorem Fx {α:Type} (f:Nat→α) (k:Nat):(List.range (k+1)).map f=(List.range k).map f++[f k]:=by rw [AbC,AaU];rfl
theorem toD_y {x:Qe} {i:Nat} (h:i<x.to.length):toD x i=x.to[i].toNat % x.n:=by unfold toD;rw [if_pos h,Cn7.gD h]
theorem toD_n {x:Qe} {i:Nat} (h:¬ i<x.to.length):toD x i=0:=if_neg h
theorem Tu {v:Value} {z a:UInt8} {to:List UInt8} (hto:Bd G v to) (htl:to.length≤1000000000) :
  Ba prog 14 [.agg #[.int .u8 (z.toNat:Int),v,.int .u8 (a.toNat:Int)]] G [] fun r G' H'=>H'=[]∧Hm G' r (Wh ⟨z.toNat,to,a.toNat⟩):=by
 obtain ⟨At,ct,rfl,_⟩:=id hto
 obtain ⟨x,hx⟩:∃ x:Qe,x=⟨z.toNat,to,a.toNat⟩:=⟨_,rfl⟩
 rw [← hx]
 have hxn:x.n=1+z.toNat % 5:=by rw [hx];rfl
 have hxk:x.k=1+z.toNat / 5 % 3:=by rw [hx];rfl
 have hxt:x.to=to:=by rw [hx]
 have hxa:x.acc=a.toNat:=by rw [hx]
 obtain ⟨L,hLe⟩:∃ L,L=jS x.k:=⟨_,rfl⟩
 have hLl:L.length=x.k+1:=by rw [hLe];exact (Cn7.let_pt oM).2
 have hz:=z.toNat_lt
 refine Ba.of_T [(0,_)] func14 rfl ntmps14 sM rfl fun w0 hs=>?_
 have hto0:=hto
 have hM0:=hs.feetLt
 refine Wt 2 [] hs rfl<|O_s (Sb hs rfl fun b1 _ hs=>O_s (Sa hs zeroValue37 rfl fun b2 _ hs=>Wp 1 [0] hs rfl ?_))
 have hs:=hs.f1
 obtain ⟨_,hGbhB1,hB1,hs⟩:=hs.fixBlk (fun k _=>Gb k)
 replace hB1:Cg _ b1 _:=hB1
 refine Wu 3 [0] hs rfl<|Zy hs (Yg rfl (hB1 0 _ rfl)<|Zy hs (Dj underlying5 underlying3 (c:=(z.toNat:Int)) rfl (Ed oM)<|Zy hs (Gq (c:=((z.toNat % 5:Nat):Int)) rfl rfl oM oM oM<|Zy hs (Ya (s:=(x.n:Int)) rfl<|Wp 5 [0,0] hs rfl<|Zy hs (Yg rfl (hB1 0 _ rfl)<|Zy hs (Dj underlying5 underlying3 (c:=(z.toNat:Int)) rfl (Ed oM)<|Zy hs (pH (c:=((z.toNat / 5:Nat):Int)) rfl rfl oM oM oM<|Zy hs (Gq (c:=((z.toNat / 5 % 3:Nat):Int)) rfl rfl oM oM oM<|Zy hs (Ya (s:=(x.k:Int)) rfl<|O_s (Sp (lW (n:=x.k) oM) hs rfl fun v1 G' _ hL hG21 hs=>?_))))))))))
 rw [← hLe] at hL
 obtain ⟨AL,cL,rfl⟩:=Bi.slice hL
 refine Zy hs (Ce zeroValue37 rfl nN rfl (cs:=[_,_,_]) rfl<|O_s (Sa hs zeroValue37 rfl fun b4 _ hs=>O_n (Sg hs rfl (rfl) fun _ hs=>Wp 10 [0,0,6,1,2,3,4,5,6] hs rfl ?_)))
 have hs:=hs.nilRow 4 1
 have hs:=hs.nilRow 79 1
 have hs:=hs.f3.f2.f2.f3
 obtain ⟨Gp0,hGp⟩:=hs.name
 subst hGp
 have hL_0:=hL
 replace hto:=hto.mono (hGbhB1.trans hG21)
 have hto_0:=hto
 replace hB1:=hB1.mono hG21
 have hB1_0:=hB1
 refine Zl [1,2,3,4,5,6] (fun m E w=>∃ (s ax:Nat) (vn va:Value) (vs:List Value) (G2:Ah),Cu Gp0 G2∧s≤x.n∧ax=s*(x.k+1)∧Dg G2 vs ((List.range s).map (rowD x))∧m=x.n-s∧E=⟨[],[(1,Vp b1),(2,Vp b2),(3,Vi ((x.n:Int))),(4,Vp b4),(5,Vi (ax:Int)),(6,Vi (s:Int))]⟩∧St ⟨w0,G,Bj []⟩ G2 [.blk b4 37 [.slice AL L.length cL,vn,va],.row 79 1 vn s vs,.row 4 1 va s (((List.range s).map (bitD x.acc)).map Da),.blk b2 37 [Vn,Vn,Vn]] w) rfl (⟨0,0,_,_,[],_,Cu.refl _,Aas _,(Nat.zero_mul _).symm,trivial,rfl,rfl,hs⟩) fun m E w hI=>?_
 obtain ⟨s,ax,vn,va,vs,G2,hlg0,hs9,hax,hrs,rfl,rfl,hs⟩:=hI
 have hL:=hL_0.mono hlg0
 have hto:=hto_0.mono hlg0
 have hB1:=hB1_0.mono hlg0
 have haxb:ax≤100:=by rw [hax];exact Aai (Abg (show s≤5 by omega) (show x.k+1≤4 by omega)) dC
 refine Wt 5 [] hs rfl<|Zy hs (Yc rfl (fun h25=>?_) fun h25=>?_)
 ·
  refine Wp 7 [0] hs rfl<|O_s (Se hs zeroValue3 rfl fun v2 _ hs _=>Wp 7 [0,0] hs rfl ?_)
  have hs:=hs.f4.f4.f4.f4.f4
  obtain ⟨Gp1,hGp⟩:=hs.name
  subst hGp
  have hL_1:=hL
  have hto_1:=hto
  have hB1_1:=hB1
  have hrs_1:=hrs
  have hlg0_1:=hlg0
  refine Zl [1,2,3,4,5,6,7,8] (fun m E w=>∃ (k:Nat) (v7:Value) (G2:Ah),Cu Gp1 G2∧k≤x.k+1∧m=x.k+1-k∧E=⟨[],[(1,Vp b1),(2,Vp b2),(3,Vi ((x.n:Int))),(4,Vp b4),(5,Vi ((ax+k:Nat):Int)),(6,Vi (s:Int)),(7,v7),(8,Vi (k:Int))]⟩∧St ⟨w0,G,Bj []⟩ G2 [.row 3 1 v7 k (((List.range k).map fun j=>toD x (ax+j)).map Bl),.blk b4 37 [.slice AL L.length cL,vn,va],.row 79 1 vn s vs,.row 4 1 va s (((List.range s).map (bitD x.acc)).map Da),.blk b2 37 [Vn,Vn,Vn]] w) rfl (⟨0,_,_,Cu.refl _,Aas _,rfl,rfl,hs⟩) fun m E w hI=>?_
  obtain ⟨k,v7,G2,hlg1,hk9,rfl,rfl,hs⟩:=hI
  have hL:=hL_1.mono hlg1
  have hto:=hto_1.mono hlg1
  have hB1:=hB1_1.mono hlg1
  have hrs:=hrs_1.mono hlg1
  have hlg0:=hlg0_1.mono hlg1
  refine Wt 7 [0,1] hs rfl<|Zy hs (Yc rfl (fun h33=>?_) fun h33=>?_)
  ·
   refine Wp 14 [0,0,1] hs rfl<|Zy hs (Yg rfl (hB1 1 _ rfl)<|Wp 1 [] hs rfl<|Zy hs (Yc rfl (fun h40=>?_) fun h40=>?_))
   ·
    refine Wp 4 [0,1] hs rfl<|Zy hs (Yg rfl (hB1 1 _ rfl)<|Wp 1 [] hs rfl<|Zy hs (Ek hto (ax+k) underlying22 sizeOf5 rfl rfl rfl oM fun p44 hp44=>?_))
    obtain ⟨xb,hxb⟩:∃ z,z=to[ax+k]'oM:=⟨_,rfl⟩
    rw [← hxb] at hp44
    refine Zy hs (Yg rfl (hp44)<|Zy hs (Dj underlying5 underlying3 (c:=(xb.toNat:Int)) rfl (Ed (by have:=xb.toNat_lt;omega))<|Wp 1 [] hs rfl<|Zy hs (Gq (c:=((xb.toNat % x.n:Nat):Int)) rfl rfl oM oM (Int.natCast_emod _ _).symm<|Wp 5 [9,1,2,3,4,5,6,7,8,9] hs rfl<|Zy hs (Ya (s:=((ax+(k+1):Nat):Int)) rfl<|Wp 5 [0] hs rfl<|O_s (Cq hs hM0 underlying79 sizeOf3 zeroValue3 rfl rfl dC dC rfl (cs:=[_]) rfl rfl fun v3 _ _ hG53 hl53 hs =>O_s (Au hs underlying79 Qx rfl dC rfl rfl (hl53) (Cp rfl) oM oM fun v4 _ hs =>Wp 4 [0] hs rfl<|Zy hs (Ya (s:=((k+1:Nat):Int)) rfl<|Wp 1 [] hs rfl ?_)))))))
    have hs:=hs.f4.f4.f4.f4.f4
    replace hlg1:=hlg1.mono hG53
    refine Zx [1,2,3,4,5,6,7,8] rfl ⟨k+1,_,_,hlg1,by omega,rfl,rfl,Bh hs (by rw [Fx,AaU,toD_y (by rw [hxt];omega),show (x.to[ax+k]'(by rw [hxt];omega)).toNat=xb.toNat from by rw [hxb];simp only [hxt]];rfl)⟩
   refine Wp 6 [0] hs rfl<|Zy hs (Ya (s:=((ax+(k+1):Nat):Int)) rfl<|Wp 5 [0] hs rfl<|O_s (Cq hs hM0 underlying79 sizeOf3 zeroValue3 rfl rfl dC dC rfl (cs:=[_]) rfl rfl fun v5 _ _ hG53 hl53 hs =>O_s (Au hs underlying79 Qx rfl dC rfl rfl (hl53) (Cp rfl) oM oM fun v6 _ hs =>Wp 4 [8,1,2,3,4,5,6,7,8] hs rfl<|Zy hs (Ya (s:=((k+1:Nat):Int)) rfl<|Wp 1 [] hs rfl ?_))))
   have hs:=hs.f4.f4.f4.f4.f4
   replace hlg1:=hlg1.mono hG53
   refine Zx [1,2,3,4,5,6,7,8] rfl ⟨k+1,_,_,hlg1,by omega,rfl,rfl,Bh hs (by rw [Fx,AaU,toD_n (by rw [hxt];omega)];rfl)⟩
  refine Wp 3 [0] hs rfl ?_
  obtain rfl:k=x.k+1:=by omega
  have hsN:=hs.fixRow noM
  clear hs
  obtain ⟨_,hG_hrw,hrw,hs⟩:=hsN
  obtain ⟨rw,hrwe⟩:∃ r,r=rowD x s:=⟨_,rfl⟩
  have hrw2:De _ v7 rw:=De.ofSl hrw (by rw [hrwe];unfold rowD;rw [AaC,AaO]) (by rw [hrwe,hax];rfl)
  clear hrw
  obtain ⟨Aw,cw,rfl,_⟩:=id hrw2
  refine Wu 5 [1,0] hs rfl<|O_s (Cq hs hM0 underlying35 sizeOf79 zeroValue79 rfl rfl dC dC rfl (cs:=[_]) rfl rfl fun v7 _ _ hG58 hl58 hs =>O_s (Au hs.f1 underlying35 gA rfl dC rfl rfl (hl58) (Cp rfl) oM oM fun v8 _ hs =>Wp 1 [1] hs rfl<|O_n (Sd hs.f1 rfl (hs.f1.rowOne 1 rfl) fun _ hs=>Wp 1 [0] hs rfl ?_)))
  obtain ⟨qz,hqz⟩:∃ q,q=a.toNat / 2 ^ s:=⟨_,rfl⟩
  refine Bg [0,1,2,3,4,5,6,7,8] hs kR ?_
  replace hs:=hs.drew
  refine Xr [0,1,2] [2,0,2] hs rfl ?_
  replace hB1:=hB1.mono (hG_hrw.trans hG58)
  refine Xt 3 hs rfl (Yg rfl (hB1 2 _ rfl)<|Xr [4] [] hs rfl<|Xt 5 hs rfl (Mh (c:=(qz:Int)) rfl rfl oM (by rw [cG _ _ oM,hqz])<|Xt 6 hs rfl (Gq (c:=((qz % 2:Nat):Int)) rfl rfl oM oM oM<|Xt 7 hs rfl (My (t:=bitD x.acc s) rfl rfl rfl (by unfold bitD;rw [hxa,← hqz,decide_eq_true_iff];dsimp only [Jg];omega) ?_))))
  have hle:=hs.le
  refine Xo 8 rfl (Cq hs hM0 underlying30 sizeOf4 zeroValue4 rfl rfl dC dC rfl (cs:=[_]) rfl rfl fun v9 _ _ hG69 hl69 hs=>?_)
  have hGz:=hG_hrw.trans (hG58.trans hG69)
  replace hrs:=hrs.mono hGz
  replace hlg0:=hlg0.mono hGz
  replace hrw2:=hrw2.mono (hG58.trans hG69)
  refine Ai hs hle hG69 (lSr _)<|Xa 9 rfl (Au hs.f2 underlying30 Pw rfl dC rfl rfl (hl69) (Cp rfl) oM oM fun v10 _ hs =>Xa 10 rfl (S_y hs rfl (Yf 2 rfl<|Xn 11 rfl (Sd hs.f1 rfl (hs.f1.rowOne 1 rfl) fun _ hs=>Xe (Zk [1,2,3,4,5,6] rfl<|Wu 2 [] hs rfl<|Zy hs (Ya (s:=((s+1:Nat):Int)) rfl<|Wp 1 [] hs rfl ?_))))))
  have hs:=hs.f3.f2.f3.f3
  refine Zx [1,2,3,4,5,6] rfl ⟨s+1,ax+(x.k+1),_,_,_,_,hlg0,by omega,by rw [hax,AcK],by rw [Fx,← hrwe];exact hrs.snoc hrw2,rfl,rfl,Bh hs Z50⟩
 refine Wp 3 [0] hs rfl ?_
 obtain rfl:s=x.n:=by omega
 have hs:=hs.f1
 have hsN:=hs.fixRow noM
 clear hs
 obtain ⟨_,hG_hfn,hfn,hs⟩:=hsN
 have hs:=hs.f1
 have hsN:=hs.fixRow noM
 clear hs
 obtain ⟨_,hG_hfa,hfa,hs⟩:=hsN
 replace hfn:=hfn.mono hG_hfa
 obtain ⟨AN,cN,rfl,_⟩:=id hfn
 obtain ⟨AA,cA,rfl,_⟩:=id hfa
 refine Wu 3 [0] hs rfl<|O_n (Sg hs.f1 rfl (rfl) fun _ hs=>Wp 1 [0] hs rfl<|As<|Zz results14 (Rb 0 hs rfl rF) ?_)
 have hDe:Wh x=⟨L,(List.range x.n).map (rowD x),(List.range x.n).map (bitD x.acc)⟩:=by rw [hLe];rfl
 have hGz:=hG_hfn.trans hG_hfa
 replace hrs:=hrs.mono hGz
 replace hL:=hL.mono hGz
 exact hs.q (by rw [hDe];exact ⟨_,_,_,rfl,hL,Dg.fin hfn (by rw [AaC,AaO]) hrs,(show Dt _ _ _ from by unfold Dt;rw [AaC,AaO];exact hfa)⟩)
def vS:List Nat:=[0,8589934592,0,0]
theorem of97:Xb [97]=vS:=by decide +kernel
theorem sV:Nn [vS]:=fun c hc=>by rw [AaE.1 hc];exact ⟨rfl,by decide⟩
def Gk:Tr:=⟨Gg [vS],[[⟨0,[⟨true,0⟩]⟩,⟨0,[⟨false,98⟩,⟨false,98⟩]⟩]],[true],[[33]]⟩
theorem dblT_of {v3 v7 v9 v14 v16 v17 v19 v20:Value} (h3:Sl G v3 2 1 [Vt,.int .u8 0]) (h7:Sl G v7 2 2 [Vf,.int .u8 98,Vf,.int .u8 98]) (h9:Sl G v9 2 2 [Vi 0,v3,Vi 0,v7]) (h14:Hl G v14 (Gg [vS])) (h16:Sl G v16 1 1 [v9]) (h17:Sl G v17 1 1 [Vt]) (h19:Sl G v19 1 1 [.int .u8 33]) (h20:Sl G v20 1 1 [v19]):Mp G (.agg #[v14,v16,v17,v20]) Gk:=by
  have q1:mJ G v3 [⟨true,0⟩]:=Bi.ofSl (cs:=[[Vt,.int .u8 0]]) h3 rfl rfl ⟨rfl,trivial⟩ sM
  have q2:mJ G v7 [⟨false,98⟩,⟨false,98⟩]:=Bi.ofSl (cs:=[[Vf,.int .u8 98],[Vf,.int .u8 98]]) h7 rfl rfl ⟨rfl,rfl,trivial⟩ sM
  have q3:nY G v9 [⟨0,[⟨true,0⟩]⟩,⟨0,[⟨false,98⟩,⟨false,98⟩]⟩]:=Bi.ofSl (cs:=[[Vi 0,v3],[Vi 0,v7]]) h9 rfl rfl ⟨⟨_,rfl,q1⟩,⟨_,rfl,q2⟩,trivial⟩ sM
  have q4:MM G v16 Gk.moves:=Bi.ofSl (cs:=[[v9]]) h16 rfl rfl ⟨⟨_,rfl,q3⟩,trivial⟩ sM
  have q5:Bd G v19 [33]:=h19
  exact ⟨_,_,_,_,rfl,h14,q4,h17,Es.fin h20 rfl (show Tn _ [_] [_] from ⟨q5,trivial⟩)⟩
theorem dbl7_ok (hT:Tab G) :
  Ba prog 41 [] G [] fun r G' H'=>H'=[]∧Mp G' r Gk:=by
 refine Ba.of_T [] func41 rfl ntmps41 sM rfl fun w0 hs=>?_
 have hT0:=hT
 have hM0:=hs.feetLt
 refine Wt 2 [] hs rfl<|O_s (Sa hs zeroValue33 rfl fun b0 _ hs=>Wp 3 [0] hs rfl<|Zy hs (Ce zeroValue76 rfl gN rfl (cs:=[_,_]) rfl<|O_s (Cq hs hM0 underlying72 sizeOf76 zeroValue76 rfl rfl dC dC rfl (cs:=[_,_]) rfl rfl fun v1 _ _ hG3 hl3 hs=>?_)))
 obtain ⟨A3,c3,rfl,_⟩:=id hl3
 refine Zy hs (Ce zeroValue74 rfl PL74 rfl (cs:=[_,_]) rfl<|Zy hs (Ce zeroValue76 rfl gN rfl (cs:=[_,_]) rfl<|Zy hs (Ce zeroValue76 rfl gN rfl (cs:=[_,_]) rfl<|O_s (Cq hs hM0 underlying72 sizeOf76 zeroValue76 rfl rfl dC dC rfl (cs:=[_,_,_,_]) rfl rfl fun v2 _ _ hG7 hl7 hs=>?_))))
 obtain ⟨A7,c7,rfl,_⟩:=id hl7
 refine Zy hs (Ce zeroValue74 rfl PL74 rfl (cs:=[_,_]) rfl<|O_s (Cq hs hM0 underlying71 sizeOf74 zeroValue74 rfl rfl dC dC rfl (cs:=[_,_,_,_]) rfl rfl fun v3 _ _ hG9 hl9 hs=>?_))
 obtain ⟨A9,c9,rfl,_⟩:=id hl9
 refine Wp 4 [0] hs rfl<|O_s (Se hs zeroValue5 rfl fun v4 _ hs shv4=>O_s (Jr hs shv4 rfl underlying22 underlying5 noM fun _ _ hG11 hl11 hs =>O_s (Sp (eB (l:=[97]) hl11 dC) hs rfl fun v5 G' _ hr12 hG12 hs=>?_)))
 rw [of97] at hr12
 subst hr12
 refine O_s (Cq hs hM0 underlying28 sizeOf86 zeroValue86 rfl rfl dC dC rfl (cs:=[_,_,_,_]) rfl rfl fun v6 _ _ hG13 hl13 hs=>?_)
 replace hT:=hT.mono (hG3.trans (hG7.trans (hG9.trans (hG11.trans (hG12.trans hG13)))))
 refine O_s (Sp (gL (l:=[vS]) (Px hl13 sV) (fun c hc=>sV c hc) dC hT) hs rfl fun v7 G' _ hq14 hG14 hs=>?_)
 obtain ⟨A14,c14,rfl⟩:=hq14.slice
 refine Wp 1 [] hs rfl<|O_s (Cq hs hM0 underlying29 sizeOf71 zeroValue71 rfl rfl dC dC rfl (cs:=[_]) rfl rfl fun v8 _ _ hG16 hl16 hs =>O_s (Cq hs hM0 underlying30 sizeOf4 zeroValue4 rfl rfl dC dC rfl (cs:=[_]) rfl rfl fun v9 _ _ hG17 hl17 hs =>O_s (Se hs zeroValue5 rfl fun v10 _ hs shv10=>O_s (Jr hs shv10 rfl underlying22 underlying5 noM fun _ _ hG19 hl19 hs=>?_))))
 have hsN:=hs
 obtain ⟨A19,c19,rfl,_⟩:=id hl19
 have hs:=hsN
 refine O_s (Cq hs hM0 underlying31 sizeOf22 zeroValue22 rfl rfl dC dC rfl (cs:=[_]) rfl rfl fun v11 _ _ hG20 hl20 hs=>?_)
 replace hl16:=hl16.mono (hG17.trans (hG19.trans hG20))
 obtain ⟨A16,c16,rfl,_⟩:=id hl16
 replace hl17:=hl17.mono (hG19.trans hG20)
 obtain ⟨A17,c17,rfl,_⟩:=id hl17
 obtain ⟨A20,c20,rfl,_⟩:=id hl20
 refine Zy hs (Ce zeroValue33 rfl PL33 rfl (cs:=[_,_,_,_]) rfl<|O_n (Sg hs rfl (rfl) fun _ hs=>Wp 1 [1,0] hs rfl<|As<|Zz results41 (Rb 0 hs rfl rF) ?_))
 replace hl3:=hl3.mono (hG7.trans (hG9.trans (hG11.trans (hG12.trans (hG13.trans (hG14.trans (hG16.trans (hG17.trans (hG19.trans hG20)))))))))
 replace hl7:=hl7.mono (hG9.trans (hG11.trans (hG12.trans (hG13.trans (hG14.trans (hG16.trans (hG17.trans (hG19.trans hG20))))))))
 replace hl9:=hl9.mono (hG11.trans (hG12.trans (hG13.trans (hG14.trans (hG16.trans (hG17.trans (hG19.trans hG20)))))))
 replace hq14:=hq14.mono (hG16.trans (hG17.trans (hG19.trans hG20)))
 replace hl19:=hl19.mono hG20
 exact hs.q (dblT_of hl3 hl7 hl9 hq14 hl16 hl17 hl19 hl20)
def gZ (x:Jm) (s:Nat):List Mv:=(List.range (x.k+1)).map fun k=>mvT x (s*(x.k+1)+k)
theorem Gn {α:Type} (f:Nat→List α) (k:Nat):(List.range (k+1)).flatMap f=(List.range k).flatMap f++f k:=by rw [AbC,Abl];simp
theorem bcast {v:Value} {a b:List UInt8} (h:a=b) (hb:Bd G v a):Bd G v b:=h▸hb
theorem u97 (xe:UInt8):UInt8.ofNat (97+xe.toNat % 3)=97+xe % 3:=by
  refine AcI.1 ?_
  rw [Aav,UInt8.toNat_add,UInt8.toNat_mod];rfl
theorem cH {x:Jm} {i:Nat}:∀ j,((List.range j).flatMap (Ij x i)).length≤j
  | 0=>AaR _
  | j+1=>by rw [Gn,AaB];have:=cH (x:=x) (i:=i) j;have:=(Cn7.out_len x i j).1;omega
theorem toT_y {x:Jm} {i:Nat} (h:i<x.to.length):qW x i=((x.to[i].toNat % (x.n+1):Nat):Int)-1:=by unfold qW;rw [if_pos h,Cn7.gD h]
theorem toT_n {x:Jm} {i:Nat} (h:¬ i<x.to.length):qW x i=0:=if_neg h
theorem outT_y {x:Jm} {i j:Nat} (h:2*i+j<x.out.length) (h2:0≤qW x i) (h3:0<x.out[2*i+j].toNat % 5):Ij x i j=[Iw (x.out[2*i+j].toNat % 5)]:=by unfold Ij;rw [Cn7.gD h,if_pos ⟨h,h2,h3⟩]
theorem sW {x:Jm} {i j:Nat} (h:¬ 2*i+j<x.out.length):Ij x i j=[]:=if_neg fun h9=>h h9.1
theorem sX {x:Jm} {i j:Nat} (h:¬ 0≤qW x i):Ij x i j=[]:=if_neg fun h9=>h h9.2.1
theorem sY {x:Jm} {i j:Nat} (h:2*i+j<x.out.length) (h3:¬ 0<x.out[2*i+j].toNat % 5):Ij x i j=[]:=if_neg fun h9=>h3 (by have:=h9.2.2;rwa [Cn7.gD h] at this)
theorem Y_quo8 {a:UInt8} (h1:ev E o=some (.int .u8 (a.toNat:Int))) (h2:ev E p=some (.int .u8 3)) (k:K (.int .u8 ((a.toNat / 3:Nat):Int))):Y x W ⟨d,.binOp .quo xt o p yt,ty,pos,aft,g⟩ E K:=by
  have hlt:=a.toNat_lt
  have e:IntKind.u8.wrap ((a.toNat:Int).tdiv 3)=((a.toNat / 3:Nat):Int):=by
    rw [Int.tdiv_eq_ediv_of_nonneg oM,show ((a.toNat:Int) / 3)=((a.toNat / 3:Nat):Int) from by omega,Dx,Aav];omega
  have e2:IntKind.u8.wrap ((a.toNat:Int) / 3)=(a.toNat:Int) / 3:=by
    rw [show ((a.toNat:Int) / 3)=((a.toNat / 3:Nat):Int) from by omega,Dx,Aav];omega
  exact Du (v:=.int .u8 ((a.toNat / 3:Nat):Int)) (fun f hf w _=>Gl sM (by simp [binOp,Op.intDiv,e,e2]) (hf.ev h1) (hf.ev h2)) k
theorem Ie {v v2 v3:Value} {z f:UInt8} {to out ends:List UInt8} (hto:Bd G v to) (hout:Bd G v2 out) (hends:Bd G v3 ends) (htl:to.length≤1000000000) (hol:out.length≤1000000000) (hel:ends.length≤1000000000) :
  Ba prog 13 [.agg #[.int .u8 (z.toNat:Int),v,v2,.int .u8 (f.toNat:Int),v3]] G [] fun r G' H'=>H'=[]∧Mp G' r (Mn ⟨z.toNat,to,out,f.toNat,ends⟩):=by
 obtain ⟨At,ct,rfl,_⟩:=id hto
 obtain ⟨Ao,co,rfl,_⟩:=id hout
 obtain ⟨Ae,ce,rfl,_⟩:=id hends
 obtain ⟨x,hx⟩:∃ x:Jm,x=⟨z.toNat,to,out,f.toNat,ends⟩:=⟨_,rfl⟩
 rw [← hx]
 have hxn:x.n=1+z.toNat % 3:=by rw [hx];rfl
 have hxk:x.k=1+z.toNat / 3 % 2:=by rw [hx];rfl
 have hxto:x.to=to:=by rw [hx]
 have hxo:x.out=out:=by rw [hx]
 have hxf:x.final=f.toNat:=by rw [hx]
 have hxe:x.ends=ends:=by rw [hx]
 obtain ⟨L,hLe⟩:∃ L,L=jS x.k:=⟨_,rfl⟩
 have hLl:L.length=x.k+1:=by rw [hLe];exact (Cn7.let_pt oM).2
 have hz:=z.toNat_lt
 refine Ba.of_T [(0,_)] func13 rfl ntmps13 sM rfl fun w0 hs=>?_
 have hto0:=hto
 have hout0:=hout
 have hends0:=hends
 have hM0:=hs.feetLt
 refine Wt 2 [] hs rfl<|O_s (Sb hs rfl fun b1 _ hs=>O_s (Sa hs zeroValue33 rfl fun b2 _ hs=>Wp 1 [0] hs rfl ?_))
 have hs:=hs.f1
 obtain ⟨_,hGbhB1,hB1,hs⟩:=hs.fixBlk (fun k _=>Gb k)
 replace hB1:Cg _ b1 _:=hB1
 refine Wu 3 [0] hs rfl<|Zy hs (Yg rfl (hB1 0 _ rfl)<|Zy hs (Dj underlying5 underlying3 (c:=(z.toNat:Int)) rfl (Ed oM)<|Zy hs (Gq (c:=((z.toNat % 3:Nat):Int)) rfl rfl oM oM oM<|Zy hs (Ya (s:=(x.n:Int)) rfl<|Wp 5 [0,0] hs rfl<|Zy hs (Yg rfl (hB1 0 _ rfl)<|Zy hs (Dj underlying5 underlying3 (c:=(z.toNat:Int)) rfl (Ed oM)<|Zy hs (pH (c:=((z.toNat / 3:Nat):Int)) rfl rfl oM oM oM<|Zy hs (Gq (c:=((z.toNat / 3 % 2:Nat):Int)) rfl rfl oM oM oM<|Zy hs (Ya (s:=(x.k:Int)) rfl<|O_s (Sp (lW (n:=x.k) oM) hs rfl fun v1 G' _ hL hG24 hs=>?_))))))))))
 rw [← hLe] at hL
 obtain ⟨AL,cL,rfl⟩:=Bi.slice hL
 refine Zy hs (Ce zeroValue33 rfl PL33 rfl (cs:=[_,_,_,_]) rfl<|O_s (Sa hs zeroValue33 rfl fun b4 _ hs=>O_n (Sg hs rfl (rfl) fun _ hs=>Wp 14 [0,0,6,1,2,3,4,5,6,0] hs rfl ?_)))
 have hs:=hs.nilRow 22 1
 have hs:=hs.nilRow 4 1
 have hs:=hs.nilRow 71 1
 have hs:=hs.f4.f3.f3.f3.f4
 obtain ⟨Gp0,hGp⟩:=hs.name
 subst hGp
 have hL_0:=hL
 replace hto:=hto.mono (hGbhB1.trans hG24)
 have hto_0:=hto
 replace hout:=hout.mono (hGbhB1.trans hG24)
 have hout_0:=hout
 replace hends:=hends.mono (hGbhB1.trans hG24)
 have hends_0:=hends
 replace hB1:=hB1.mono hG24
 have hB1_0:=hB1
 refine Zl [1,2,3,4,5,6,7] (fun m E w=>∃ (s ax:Nat) (vm vf ve:Value) (vms ves:List Value) (G2:Ah),Cu Gp0 G2∧s≤x.n∧ax=s*(x.k+1)∧Wm G2 vms ((List.range s).map (gZ x))∧Tn G2 ves ((List.range s).map (Uy x))∧m=x.n-s∧E=⟨[],[(1,Vp b1),(2,Vp b2),(3,Vi ((x.n:Int))),(4,Vp b4),(5,Vi (ax:Int)),(6,Vi ((2*ax:Nat):Int)),(7,Vi (s:Int))]⟩∧St ⟨w0,G,Bj []⟩ G2 [.blk b4 33 [.slice AL L.length cL,vm,vf,ve],.row 71 1 vm s vms,.row 4 1 vf s (((List.range s).map (Qf x)).map Da),.row 22 1 ve s ves,.blk b2 33 [Vn,Vn,Vn,Vn]] w) rfl (⟨0,0,_,_,_,[],[],_,Cu.refl _,Aas _,(Nat.zero_mul _).symm,trivial,trivial,rfl,rfl,hs⟩) fun m E w hI=>?_
 obtain ⟨s,ax,vm,vf,ve,vms,ves,G2,hlg0,hs9,hax,hms,hbs,rfl,rfl,hs⟩:=hI
 have hL:=hL_0.mono hlg0
 have hto:=hto_0.mono hlg0
 have hout:=hout_0.mono hlg0
 have hends:=hends_0.mono hlg0
 have hB1:=hB1_0.mono hlg0
 have haxb:ax≤100:=by rw [hax];exact Aai (Abg (show s≤5 by omega) (show x.k+1≤4 by omega)) dC
 refine Wt 5 [] hs rfl<|Zy hs (Yc rfl (fun h28=>?_) fun h28=>?_)
 ·
  refine Wp 7 [0] hs rfl<|O_s (Se hs zeroValue74 rfl fun v2 _ hs _=>Wp 7 [0,0] hs rfl ?_)
  have hs:=hs.f5.f5.f5.f5.f5.f5
  obtain ⟨Gp1,hGp⟩:=hs.name
  subst hGp
  have hL_1:=hL
  have hto_1:=hto
  have hout_1:=hout
  have hends_1:=hends
  have hB1_1:=hB1
  have hms_1:=hms
  have hbs_1:=hbs
  have hlg0_1:=hlg0
  refine Zl [1,2,3,4,5,6,7,8,9] (fun m E w=>∃ (k:Nat) (v8:Value) (mps:List (Int×Value)) (G2:Ah),Cu Gp1 G2∧k≤x.k+1∧mps.length=k∧MPs G2 mps ((List.range k).map fun j=>mvT x (ax+j))∧m=x.k+1-k∧E=⟨[],[(1,Vp b1),(2,Vp b2),(3,Vi ((x.n:Int))),(4,Vp b4),(5,Vi ((ax+k:Nat):Int)),(6,Vi ((2*(ax+k):Nat):Int)),(7,Vi (s:Int)),(8,v8),(9,Vi (k:Int))]⟩∧St ⟨w0,G,Bj []⟩ G2 [.row 74 2 v8 k (Wl mps),.blk b4 33 [.slice AL L.length cL,vm,vf,ve],.row 71 1 vm s vms,.row 4 1 vf s (((List.range s).map (Qf x)).map Da),.row 22 1 ve s ves,.blk b2 33 [Vn,Vn,Vn,Vn]] w) rfl (⟨0,_,[],_,Cu.refl _,Aas _,rfl,trivial,rfl,rfl,hs⟩) fun m E w hI=>?_
  obtain ⟨k,v8,mps,G2,hlg1,hk9,hml,hmp,rfl,rfl,hs⟩:=hI
  have hL:=hL_1.mono hlg1
  have hto:=hto_1.mono hlg1
  have hout:=hout_1.mono hlg1
  have hends:=hends_1.mono hlg1
  have hB1:=hB1_1.mono hlg1
  have hms:=hms_1.mono hlg1
  have hbs:=hbs_1.mono hlg1
  have hlg0:=hlg0_1.mono hlg1
  refine Wt 7 [0,1] hs rfl<|Zy hs (Yc rfl (fun h36=>?_) fun h36=>?_)
  ·
   refine Wp 7 [0] hs rfl<|Zy hs (Ce zeroValue74 rfl PL74 rfl (cs:=[_,_]) rfl<|O_s (Sa hs zeroValue74 rfl fun b10 _ hs=>O_n (Sg hs rfl (rfl) fun _ hs=>Wp 6 [0,1] hs rfl<|Zy hs (Yg rfl (hB1 1 _ rfl)<|Wp 1 [] hs rfl<|Zy hs (Yc rfl (fun h44=>?_) fun h44=>?_)))))
   ·
    refine Wp 1 [0] hs rfl ?_
    have hs:=hs.f6.f6.f6.f6.f6.f6.f6
    obtain ⟨GpJif44,hGp⟩:=hs.name
    subst hGp
    have hL_Jif44:=hL
    have hto_Jif44:=hto
    have hout_Jif44:=hout
    have hends_Jif44:=hends
    have hB1_Jif44:=hB1
    have hms_Jif44:=hms
    have hbs_Jif44:=hbs
    have hmp_Jif44:=hmp
    have hlg0_Jif44:=hlg0
    have hlg1_Jif44:=hlg1
    have hlgJif44:=Cu.refl GpJif44
    refine Lo (fun E w=>∃ (mt:Int) (G2:Ah),Cu GpJif44 G2∧mt=qW x (ax+k)∧E=⟨[],[(1,Vp b1),(2,Vp b2),(3,Vi ((x.n:Int))),(4,Vp b4),(5,Vi ((ax+k:Nat):Int)),(6,Vi ((2*(ax+k):Nat):Int)),(7,Vi (s:Int)),(8,v8),(9,Vi (k:Int)),(10,Vp b10)]⟩∧St ⟨w0,G,Bj []⟩ G2 [.blk b10 74 [Vi mt,Vn],.row 74 2 v8 k (Wl mps),.blk b4 33 [.slice AL L.length cL,vm,vf,ve],.row 71 1 vm s vms,.row 4 1 vf s (((List.range s).map (Qf x)).map Da),.row 22 1 ve s ves,.blk b2 33 [Vn,Vn,Vn,Vn]] w) ?_ ?_
    ·
     refine Wt 3 [1] hs rfl<|Zy hs (Yg rfl (hB1 1 _ rfl)<|Wp 1 [] hs rfl<|Zy hs (Ek hto (ax+k) underlying22 sizeOf5 rfl rfl rfl oM fun p48 hp48=>?_))
     obtain ⟨xb,hxb⟩:∃ z,z=to[ax+k]'oM:=⟨_,rfl⟩
     rw [← hxb] at hp48
     refine Zy hs (Yg rfl (hp48)<|Zy hs (Dj underlying5 underlying3 (c:=(xb.toNat:Int)) rfl (Ed (by have:=xb.toNat_lt;omega))<|Wp 1 [] hs rfl<|Zy hs (Ya (s:=((x.n+1:Nat):Int)) rfl<|Zy hs (Gq (c:=((xb.toNat % (x.n+1):Nat):Int)) rfl rfl oM oM (Int.natCast_emod _ _).symm<|Zy hs (Ll (c:=(((xb.toNat % (x.n+1):Nat):Int) - 1)) rfl rfl oM (by have:=Abz xb.toNat (show 0<x.n+1 by omega);omega)<|Wp 1 [0] hs rfl<|O_n (Sd hs rfl rfl fun _ hs=>?_))))))
     have hs:=hs.f6.f6.f6.f6.f6.f6.f6
     exact Cr (⟨[(1,_),(2,_),(3,_),(4,_),(5,_),(6,_),(7,_),(8,_),(9,_),(10,_)],⟨rfl,rfl,rfl,rfl,rfl,rfl,rfl,rfl,rfl,rfl,trivial⟩,⟨_,_,hlgJif44,((toT_y (by rw [hxto];omega)).trans (by rw [show (x.to[ax+k]'(by rw [hxto];omega)).toNat=xb.toNat from by rw [hxb];simp only [hxto]])).symm,rfl,hs⟩⟩)
    clear hs
    intro D M L w hL hI
    obtain ⟨mt,G2,hlgJif44,hmt,hE,hs⟩:=hI
    cases hE
    refine Oh _ hL ?_
    have hL:=hL_Jif44.mono hlgJif44
    have hto:=hto_Jif44.mono hlgJif44
    have hout:=hout_Jif44.mono hlgJif44
    have hends:=hends_Jif44.mono hlgJif44
    have hB1:=hB1_Jif44.mono hlgJif44
    have hms:=hms_Jif44.mono hlgJif44
    have hbs:=hbs_Jif44.mono hlgJif44
    have hmp:=hmp_Jif44.mono hlgJif44
    have hlg0:=hlg0_Jif44.mono hlgJif44
    have hlg1:=hlg1_Jif44.mono hlgJif44
    refine Wt 3 [] hs rfl<|Zy hs (Ya (s:=((ax+(k+1):Nat):Int)) rfl<|Wp 7 [0,11,1,2,3,4,5,6,7,8,9,10,11] hs rfl ?_)
    have hs:=hs.nilRow 76 2
    have hs:=hs.f7.f7.f7.f7.f7.f7.f6.f7
    obtain ⟨Gp2,hGp⟩:=hs.name
    subst hGp
    have hL_2:=hL
    have hto_2:=hto
    have hout_2:=hout
    have hends_2:=hends
    have hB1_2:=hB1
    have hms_2:=hms
    have hbs_2:=hbs
    have hmp_2:=hmp
    have hlg0_2:=hlg0
    have hlg1_2:=hlg1
    refine Zl [1,2,3,4,5,6,7,8,9,10,11] (fun m E w=>∃ (j:Nat) (vo:Value) (l:List Pc) (G2:Ah),Cu Gp2 G2∧j≤2∧l=(List.range j).flatMap (Ij x (ax+k))∧m=2-j∧E=⟨[],[(1,Vp b1),(2,Vp b2),(3,Vi ((x.n:Int))),(4,Vp b4),(5,Vi (((ax+(k+1):Nat):Int))),(6,Vi ((2*(ax+k)+j:Nat):Int)),(7,Vi (s:Int)),(8,v8),(9,Vi (k:Int)),(10,Vp b10),(11,Vi (j:Int))]⟩∧St ⟨w0,G,Bj []⟩ G2 [.blk b10 74 [Vi mt,vo],.row 76 2 vo l.length (sA l),.row 74 2 v8 k (Wl mps),.blk b4 33 [.slice AL L.length cL,vm,vf,ve],.row 71 1 vm s vms,.row 4 1 vf s (((List.range s).map (Qf x)).map Da),.row 22 1 ve s ves,.blk b2 33 [Vn,Vn,Vn,Vn]] w) rfl (⟨0,_,[],_,Cu.refl _,Aas _,rfl,rfl,rfl,hs⟩) fun m E w hI=>?_
    obtain ⟨j,vo,l,G2,hlg2,hj9,hlq,rfl,rfl,hs⟩:=hI
    have hL:=hL_2.mono hlg2
    have hto:=hto_2.mono hlg2
    have hout:=hout_2.mono hlg2
    have hends:=hends_2.mono hlg2
    have hB1:=hB1_2.mono hlg2
    have hms:=hms_2.mono hlg2
    have hbs:=hbs_2.mono hlg2
    have hmp:=hmp_2.mono hlg2
    have hlg0:=hlg0_2.mono hlg2
    have hlg1:=hlg1_2.mono hlg2
    have hll2:l.length≤j:=by rw [hlq];exact cH _
    refine Wt 4 [] hs rfl<|Zy hs (Yc rfl (fun h59=>?_) fun h59=>?_)
    ·
     refine Wp 10 [0,2] hs rfl<|Zy hs (Yg rfl (hB1 2 _ rfl)<|Wp 1 [] hs rfl<|Zy hs (Yc rfl (fun h66=>?_) fun h66=>?_))
     ·
      refine Wp 3 [0,0] hs rfl<|Zg hs rfl (Yc rfl (fun h70=>?_) fun h70=>?_)
      ·
       refine Wp 3 [2] hs rfl<|Zg hs rfl (Yg rfl (hB1 2 _ rfl)<|Wp 1 [] hs rfl<|Zg hs rfl (Ek hout (2*(ax+k)+j) underlying22 sizeOf5 rfl rfl rfl oM fun p76 hp76=>?_))
       obtain ⟨xo,hxov⟩:∃ z,z=out[2*(ax+k)+j]'oM:=⟨_,rfl⟩
       rw [← hxov] at hp76
       refine Zg hs rfl (Yg rfl (hp76)<|Zg hs rfl (Gq (c:=((xo.toNat % 5:Nat):Int)) rfl rfl oM oM oM<|Zg hs rfl (Yc rfl (fun h79=>?_) fun h79=>?_)))
       ·
        refine Wp 3 [12,1,2,3,4,5,6,7,8,9,10,11,80] hs rfl<|Bg [0,1,2,3,4,5,6,7,8,9] hs kR ?_
        replace hs:=hs.drew
        refine Xr [0,1,2] [1,0,2] hs rfl<|Xt 3 hs rfl (Yg rfl (hB1 2 _ rfl)<|Xr [4] [] hs rfl<|Xt 5 hs rfl (Ek hout (2*(ax+k)+j) underlying22 sizeOf5 rfl rfl rfl oM fun p86 hp86=>?_))
        rw [← hxov] at hp86
        refine Xt 6 hs rfl (Yg rfl (hp86)<|Xt 7 hs rfl (Gq (c:=((xo % 5:UInt8).toNat:Int)) rfl rfl oM oM Z57 ?_))
        have hle:=hs.le
        refine Xo 8 rfl (Sp (lU (z:=xo % 5) (by rw [UInt8.toNat_mod];show xo.toNat % 5≤4;omega)) hs rfl fun v3 G' _ hR hG89 hs=>?_)
        obtain rfl:=hR
        replace hlg2:=hlg2.mono hG89
        refine Ai hs hle hG89 (lSr _) ?_
        have hle:=hs.le
        refine Xo 9 rfl (Cq hs hM0 underlying72 sizeOf76 zeroValue76 rfl rfl dC dC rfl (cs:=[_,_]) rfl rfl fun v4 _ _ hG90 hl90 hs=>?_)
        replace hlg2:=hlg2.mono hG90
        refine Ai hs hle hG90 (lSr _)<|Xa 10 rfl (Au hs.f1 underlying72 TI76 rfl dC rfl rfl (hl90) (fun y hy=>by simp only [AaV,AbI,or_false] at hy;rcases hy with rfl | rfl<;>rfl) oM oM fun v5 _ hs =>Xa 11 rfl (S_y hs rfl (Yf 1 rfl<|Xn 12 rfl (Sd hs.f1 rfl (hs.f1.rowOne 1 rfl) fun _ hs=>Xe (Zk [1,2,3,4,5,6,7,8,9,10,11] rfl<|Wu 2 [] hs rfl<|Zy hs (Ya (s:=((2 * (ax+k)+(j+1):Nat):Int)) rfl<|Wp 4 [0] hs rfl<|Zy hs (Ya (s:=((j+1:Nat):Int)) rfl<|Wp 1 [] hs rfl ?_)))))))
        have hs:=hs.f7.f7.f7.f7.f7.f7.f7.f7
        have hoj:Ij x (ax+k) j=[Iw (xo % 5).toNat]:=by rw [outT_y Z63 (by rw [← hmt];omega) Z9,show (x.out[2*(ax+k)+j]'Z63).toNat=xo.toNat from by rw [hxov];simp only [hxo],UInt8.toNat_mod];rfl
        refine Zx [1,2,3,4,5,6,7,8,9,10,11] rfl ⟨j+1,_,l++[Iw (xo % 5).toNat],_,hlg2,by omega,by rw [Gn,← hlq,hoj],rfl,rfl,Bh hs (by rw [bQ,AaB];rfl)⟩
       refine Wp 6 [12,1,2,3,4,5,6,7,8,9,10,11,80] hs rfl<|Zy hs (Ya (s:=((2*(ax+k)+(j+1):Nat):Int)) rfl<|Wp 4 [0] hs rfl<|Zy hs (Ya (s:=((j+1:Nat):Int)) rfl<|Wp 1 [] hs rfl ?_))
       have hs:=hs.f7.f7.f7.f7.f7.f7.f7.f7
       have hoj:Ij x (ax+k) j=[]:=sY Z63 Z9
       refine Zx [1,2,3,4,5,6,7,8,9,10,11] rfl ⟨j+1,_,l,_,hlg2,by omega,by rw [Gn,← hlq,hoj,AaX],rfl,rfl,hs⟩
      refine Wp 15 [12,1,2,3,4,5,6,7,8,9,10,11,80] hs rfl<|Zy hs (Ya (s:=((2*(ax+k)+(j+1):Nat):Int)) rfl<|Wp 4 [0] hs rfl<|Zy hs (Ya (s:=((j+1:Nat):Int)) rfl<|Wp 1 [] hs rfl ?_))
      have hs:=hs.f7.f7.f7.f7.f7.f7.f7.f7
      have hoj:Ij x (ax+k) j=[]:=sX (by rw [← hmt];omega)
      refine Zx [1,2,3,4,5,6,7,8,9,10,11] rfl ⟨j+1,_,l,_,hlg2,by omega,by rw [Gn,← hlq,hoj,AaX],rfl,rfl,hs⟩
     refine Wp 19 [12,1,2,3,4,5,6,7,8,9,10,11,80] hs rfl<|Zy hs (Ya (s:=((2*(ax+k)+(j+1):Nat):Int)) rfl<|Wp 4 [0] hs rfl<|Zy hs (Ya (s:=((j+1:Nat):Int)) rfl<|Wp 1 [] hs rfl ?_))
     have hs:=hs.f7.f7.f7.f7.f7.f7.f7.f7
     have hoj:Ij x (ax+k) j=[]:=sW Z63
     refine Zx [1,2,3,4,5,6,7,8,9,10,11] rfl ⟨j+1,_,l,_,hlg2,by omega,by rw [Gn,← hlq,hoj,AaX],rfl,rfl,hs⟩
    refine Wp 3 [0] hs rfl ?_
    obtain rfl:j=2:=by omega
    have hs:=hs.f1
    have hsN:=hs.fixRow noM
    clear hs
    obtain ⟨_,hG_hpc0,hpc0,hs⟩:=hsN
    have hsN:=hs
    have hpc:=Vk hpc0
    clear hpc0
    obtain ⟨Ap,cp,rfl⟩:=hpc.slice
    have hs:=hsN
    clear hsN
    refine Wu 3 [0] hs rfl<|O_s (Cq hs hM0 underlying71 sizeOf74 zeroValue74 rfl rfl dC dC rfl (cs:=[_,_]) rfl rfl fun v6 _ _ hG97 hl97 hs =>O_s (Au hs.f1 underlying71 TI74 rfl dC rfl rfl (hl97) (fun y hy=>by simp only [AaV,AbI,or_false] at hy;rcases hy with rfl | rfl<;>rfl) oM oM fun v7 _ hs =>Wp 2 [0] hs rfl<|Wu 2 [] hs rfl<|Zy hs (Ya (s:=((k+1:Nat):Int)) rfl<|Wp 1 [] hs rfl ?_)))
    have hs:=hs.f6.f6.f6.f6.f6.f5
    have hmvx:mvT x (ax+k)=⟨mt,l⟩:=by unfold mvT;rw [← hmt,hlq];simp [AbC]
    have hGz:=hG_hpc0.trans hG97
    replace hmp:=hmp.mono hGz
    replace hlg1:=hlg1.mono hGz
    replace hpc:=hpc.mono hG97
    refine Zx [1,2,3,4,5,6,7,8,9] rfl ⟨k+1,_,mps++[(mt,.slice Ap l.length cp)],_,hlg1,by omega,by rw [AaB,hml];rfl,by rw [Fx,hmvx];exact Cw.snoc hmp ⟨rfl,hpc⟩,rfl,rfl,Bh (hs.wk [_,_,_,_,_,_]) (by rw [Lv];rfl)⟩
   refine Wp 1 [0] hs rfl ?_
   have hs:=hs.f6.f6.f6.f6.f6.f6.f6
   obtain ⟨GpJif44,hGp⟩:=hs.name
   subst hGp
   have hL_Jif44:=hL
   have hto_Jif44:=hto
   have hout_Jif44:=hout
   have hends_Jif44:=hends
   have hB1_Jif44:=hB1
   have hms_Jif44:=hms
   have hbs_Jif44:=hbs
   have hmp_Jif44:=hmp
   have hlg0_Jif44:=hlg0
   have hlg1_Jif44:=hlg1
   have hlgJif44:=Cu.refl GpJif44
   refine Lo (fun E w=>∃ (mt:Int) (G2:Ah),Cu GpJif44 G2∧mt=qW x (ax+k)∧E=⟨[],[(1,Vp b1),(2,Vp b2),(3,Vi ((x.n:Int))),(4,Vp b4),(5,Vi ((ax+k:Nat):Int)),(6,Vi ((2*(ax+k):Nat):Int)),(7,Vi (s:Int)),(8,v8),(9,Vi (k:Int)),(10,Vp b10)]⟩∧St ⟨w0,G,Bj []⟩ G2 [.blk b10 74 [Vi mt,Vn],.row 74 2 v8 k (Wl mps),.blk b4 33 [.slice AL L.length cL,vm,vf,ve],.row 71 1 vm s vms,.row 4 1 vf s (((List.range s).map (Qf x)).map Da),.row 22 1 ve s ves,.blk b2 33 [Vn,Vn,Vn,Vn]] w) ?_ ?_
   ·
    refine Wt 2 [] hs rfl ?_
    have hs:=hs.f6.f6.f6.f6.f6.f6.f6
    exact ⟨[(1,_),(2,_),(3,_),(4,_),(5,_),(6,_),(7,_),(8,_),(9,_),(10,_)],⟨rfl,rfl,rfl,rfl,rfl,rfl,rfl,rfl,rfl,rfl,trivial⟩,⟨_,_,hlgJif44,(toT_n (by rw [hxto];omega)).symm,rfl,hs⟩⟩
   clear hs
   intro D M L w hL hI
   obtain ⟨mt,G2,hlgJif44,hmt,hE,hs⟩:=hI
   cases hE
   refine Oh _ hL ?_
   have hL:=hL_Jif44.mono hlgJif44
   have hto:=hto_Jif44.mono hlgJif44
   have hout:=hout_Jif44.mono hlgJif44
   have hends:=hends_Jif44.mono hlgJif44
   have hB1:=hB1_Jif44.mono hlgJif44
   have hms:=hms_Jif44.mono hlgJif44
   have hbs:=hbs_Jif44.mono hlgJif44
   have hmp:=hmp_Jif44.mono hlgJif44
   have hlg0:=hlg0_Jif44.mono hlgJif44
   have hlg1:=hlg1_Jif44.mono hlgJif44
   refine Wt 3 [] hs rfl<|Zy hs (Ya (s:=((ax+(k+1):Nat):Int)) rfl<|Wp 7 [0,11,1,2,3,4,5,6,7,8,9,10,11] hs rfl ?_)
   have hs:=hs.nilRow 76 2
   have hs:=hs.f7.f7.f7.f7.f7.f7.f6.f7
   obtain ⟨Gp2,hGp⟩:=hs.name
   subst hGp
   have hL_2:=hL
   have hto_2:=hto
   have hout_2:=hout
   have hends_2:=hends
   have hB1_2:=hB1
   have hms_2:=hms
   have hbs_2:=hbs
   have hmp_2:=hmp
   have hlg0_2:=hlg0
   have hlg1_2:=hlg1
   refine Zl [1,2,3,4,5,6,7,8,9,10,11] (fun m E w=>∃ (j:Nat) (vo:Value) (l:List Pc) (G2:Ah),Cu Gp2 G2∧j≤2∧l=(List.range j).flatMap (Ij x (ax+k))∧m=2-j∧E=⟨[],[(1,Vp b1),(2,Vp b2),(3,Vi ((x.n:Int))),(4,Vp b4),(5,Vi (((ax+(k+1):Nat):Int))),(6,Vi ((2*(ax+k)+j:Nat):Int)),(7,Vi (s:Int)),(8,v8),(9,Vi (k:Int)),(10,Vp b10),(11,Vi (j:Int))]⟩∧St ⟨w0,G,Bj []⟩ G2 [.blk b10 74 [Vi mt,vo],.row 76 2 vo l.length (sA l),.row 74 2 v8 k (Wl mps),.blk b4 33 [.slice AL L.length cL,vm,vf,ve],.row 71 1 vm s vms,.row 4 1 vf s (((List.range s).map (Qf x)).map Da),.row 22 1 ve s ves,.blk b2 33 [Vn,Vn,Vn,Vn]] w) rfl (⟨0,_,[],_,Cu.refl _,Aas _,rfl,rfl,rfl,hs⟩) fun m E w hI=>?_
   obtain ⟨j,vo,l,G2,hlg2,hj9,hlq,rfl,rfl,hs⟩:=hI
   have hL:=hL_2.mono hlg2
   have hto:=hto_2.mono hlg2
   have hout:=hout_2.mono hlg2
   have hends:=hends_2.mono hlg2
   have hB1:=hB1_2.mono hlg2
   have hms:=hms_2.mono hlg2
   have hbs:=hbs_2.mono hlg2
   have hmp:=hmp_2.mono hlg2
   have hlg0:=hlg0_2.mono hlg2
   have hlg1:=hlg1_2.mono hlg2
   have hll2:l.length≤j:=by rw [hlq];exact cH _
   refine Wt 4 [] hs rfl<|Zy hs (Yc rfl (fun h59=>?_) fun h59=>?_)
   ·
    refine Wp 10 [0,2] hs rfl<|Zy hs (Yg rfl (hB1 2 _ rfl)<|Wp 1 [] hs rfl<|Zy hs (Yc rfl (fun h66=>?_) fun h66=>?_))
    ·
     refine Wp 3 [0,0] hs rfl<|Zg hs rfl (Yc rfl (fun h70=>?_) fun h70=>?_)
     ·
      refine Wp 3 [2] hs rfl<|Zg hs rfl (Yg rfl (hB1 2 _ rfl)<|Wp 1 [] hs rfl<|Zg hs rfl (Ek hout (2*(ax+k)+j) underlying22 sizeOf5 rfl rfl rfl oM fun p76 hp76=>?_))
      obtain ⟨xo,hxov⟩:∃ z,z=out[2*(ax+k)+j]'oM:=⟨_,rfl⟩
      rw [← hxov] at hp76
      refine Zg hs rfl (Yg rfl (hp76)<|Zg hs rfl (Gq (c:=((xo.toNat % 5:Nat):Int)) rfl rfl oM oM oM<|Zg hs rfl (Yc rfl (fun h79=>?_) fun h79=>?_)))
      ·
       refine Wp 3 [12,1,2,3,4,5,6,7,8,9,10,11,80] hs rfl<|Bg [0,1,2,3,4,5,6,7,8,9] hs kR ?_
       replace hs:=hs.drew
       refine Xr [0,1,2] [1,0,2] hs rfl<|Xt 3 hs rfl (Yg rfl (hB1 2 _ rfl)<|Xr [4] [] hs rfl<|Xt 5 hs rfl (Ek hout (2*(ax+k)+j) underlying22 sizeOf5 rfl rfl rfl oM fun p86 hp86=>?_))
       rw [← hxov] at hp86
       refine Xt 6 hs rfl (Yg rfl (hp86)<|Xt 7 hs rfl (Gq (c:=((xo % 5:UInt8).toNat:Int)) rfl rfl oM oM Z57 ?_))
       have hle:=hs.le
       refine Xo 8 rfl (Sp (lU (z:=xo % 5) (by rw [UInt8.toNat_mod];show xo.toNat % 5≤4;omega)) hs rfl fun v8 G' _ hR hG89 hs=>?_)
       obtain rfl:=hR
       replace hlg2:=hlg2.mono hG89
       refine Ai hs hle hG89 (lSr _) ?_
       have hle:=hs.le
       refine Xo 9 rfl (Cq hs hM0 underlying72 sizeOf76 zeroValue76 rfl rfl dC dC rfl (cs:=[_,_]) rfl rfl fun v9 _ _ hG90 hl90 hs=>?_)
       replace hlg2:=hlg2.mono hG90
       refine Ai hs hle hG90 (lSr _)<|Xa 10 rfl (Au hs.f1 underlying72 TI76 rfl dC rfl rfl (hl90) (fun y hy=>by simp only [AaV,AbI,or_false] at hy;rcases hy with rfl | rfl<;>rfl) oM oM fun v10 _ hs =>Xa 11 rfl (S_y hs rfl (Yf 1 rfl<|Xn 12 rfl (Sd hs.f1 rfl (hs.f1.rowOne 1 rfl) fun _ hs=>Xe (Zk [1,2,3,4,5,6,7,8,9,10,11] rfl<|Wu 2 [] hs rfl<|Zy hs (Ya (s:=((2 * (ax+k)+(j+1):Nat):Int)) rfl<|Wp 4 [0] hs rfl<|Zy hs (Ya (s:=((j+1:Nat):Int)) rfl<|Wp 1 [] hs rfl ?_)))))))
       have hs:=hs.f7.f7.f7.f7.f7.f7.f7.f7
       have hoj:Ij x (ax+k) j=[Iw (xo % 5).toNat]:=by rw [outT_y Z63 (by rw [← hmt];omega) Z9,show (x.out[2*(ax+k)+j]'Z63).toNat=xo.toNat from by rw [hxov];simp only [hxo],UInt8.toNat_mod];rfl
       refine Zx [1,2,3,4,5,6,7,8,9,10,11] rfl ⟨j+1,_,l++[Iw (xo % 5).toNat],_,hlg2,by omega,by rw [Gn,← hlq,hoj],rfl,rfl,Bh hs (by rw [bQ,AaB];rfl)⟩
      refine Wp 6 [12,1,2,3,4,5,6,7,8,9,10,11,80] hs rfl<|Zy hs (Ya (s:=((2*(ax+k)+(j+1):Nat):Int)) rfl<|Wp 4 [0] hs rfl<|Zy hs (Ya (s:=((j+1:Nat):Int)) rfl<|Wp 1 [] hs rfl ?_))
      have hs:=hs.f7.f7.f7.f7.f7.f7.f7.f7
      have hoj:Ij x (ax+k) j=[]:=sY Z63 Z9
      refine Zx [1,2,3,4,5,6,7,8,9,10,11] rfl ⟨j+1,_,l,_,hlg2,by omega,by rw [Gn,← hlq,hoj,AaX],rfl,rfl,hs⟩
     refine Wp 15 [12,1,2,3,4,5,6,7,8,9,10,11,80] hs rfl<|Zy hs (Ya (s:=((2*(ax+k)+(j+1):Nat):Int)) rfl<|Wp 4 [0] hs rfl<|Zy hs (Ya (s:=((j+1:Nat):Int)) rfl<|Wp 1 [] hs rfl ?_))
     have hs:=hs.f7.f7.f7.f7.f7.f7.f7.f7
     have hoj:Ij x (ax+k) j=[]:=sX (by rw [← hmt];omega)
     refine Zx [1,2,3,4,5,6,7,8,9,10,11] rfl ⟨j+1,_,l,_,hlg2,by omega,by rw [Gn,← hlq,hoj,AaX],rfl,rfl,hs⟩
    refine Wp 19 [12,1,2,3,4,5,6,7,8,9,10,11,80] hs rfl<|Zy hs (Ya (s:=((2*(ax+k)+(j+1):Nat):Int)) rfl<|Wp 4 [0] hs rfl<|Zy hs (Ya (s:=((j+1:Nat):Int)) rfl<|Wp 1 [] hs rfl ?_))
    have hs:=hs.f7.f7.f7.f7.f7.f7.f7.f7
    have hoj:Ij x (ax+k) j=[]:=sW Z63
    refine Zx [1,2,3,4,5,6,7,8,9,10,11] rfl ⟨j+1,_,l,_,hlg2,by omega,by rw [Gn,← hlq,hoj,AaX],rfl,rfl,hs⟩
   refine Wp 3 [0] hs rfl ?_
   obtain rfl:j=2:=by omega
   have hs:=hs.f1
   have hsN:=hs.fixRow noM
   clear hs
   obtain ⟨_,hG_hpc0,hpc0,hs⟩:=hsN
   have hsN:=hs
   have hpc:=Vk hpc0
   clear hpc0
   obtain ⟨Ap,cp,rfl⟩:=hpc.slice
   have hs:=hsN
   clear hsN
   refine Wu 3 [0] hs rfl<|O_s (Cq hs hM0 underlying71 sizeOf74 zeroValue74 rfl rfl dC dC rfl (cs:=[_,_]) rfl rfl fun v11 _ _ hG97 hl97 hs =>O_s (Au hs.f1 underlying71 TI74 rfl dC rfl rfl (hl97) (fun y hy=>by simp only [AaV,AbI,or_false] at hy;rcases hy with rfl | rfl<;>rfl) oM oM fun v12 _ hs =>Wp 2 [0] hs rfl<|Wu 2 [] hs rfl<|Zy hs (Ya (s:=((k+1:Nat):Int)) rfl<|Wp 1 [] hs rfl ?_)))
   have hs:=hs.f6.f6.f6.f6.f6.f5
   have hmvx:mvT x (ax+k)=⟨mt,l⟩:=by unfold mvT;rw [← hmt,hlq];simp [AbC]
   have hGz:=hG_hpc0.trans hG97
   replace hmp:=hmp.mono hGz
   replace hlg1:=hlg1.mono hGz
   replace hpc:=hpc.mono hG97
   refine Zx [1,2,3,4,5,6,7,8,9] rfl ⟨k+1,_,mps++[(mt,.slice Ap l.length cp)],_,hlg1,by omega,by rw [AaB,hml];rfl,by rw [Fx,hmvx];exact Cw.snoc hmp ⟨rfl,hpc⟩,rfl,rfl,Bh (hs.wk [_,_,_,_,_,_]) (by rw [Lv];rfl)⟩
  refine Wp 3 [0] hs rfl ?_
  obtain rfl:k=x.k+1:=by omega
  refine Wu 2 [] hs rfl<|O_s (Cq hs hM0 underlying22 sizeOf5 zeroValue5 rfl rfl dC dC rfl (cs:=[]) rfl rfl fun v13 _ _ hG99 hl99 hs=>?_)
  obtain ⟨A99,c99,rfl,_⟩:=id hl99
  refine Wp 2 [0] hs rfl ?_
  obtain ⟨qf,hqf⟩:∃ q,q=f.toNat / 2 ^ s:=⟨_,rfl⟩
  refine Wu 5 [4] hs rfl ?_
  replace hB1:=hB1.mono hG99
  refine Zy hs (Yg rfl (hB1 4 _ rfl)<|Wp 1 [] hs rfl ?_)
  replace hmp:=hmp.mono hG99
  replace hends:=hends.mono hG99
  replace hms:=hms.mono hG99
  replace hbs:=hbs.mono hG99
  replace hlg0:=hlg0.mono hG99
  refine Zy hs (Yc rfl (fun h104=>?_) fun h104=>?_)
  ·
   refine Wp 2 [3] hs rfl<|Zg hs rfl (Yg rfl (hB1 3 _ rfl)<|Wp 1 [] hs rfl<|Zg hs rfl (Mh (c:=(qf:Int)) rfl rfl oM (by rw [cG _ _ oM,hqf])<|Zg hs rfl (Gq (c:=((qf % 2:Nat):Int)) rfl rfl oM oM oM<|Zg hs rfl (Yc rfl (fun h111=>?_) fun h111=>?_))))
   ·
    refine Wp 2 [10,1,2,3,4,5,6,7,8,12,112] hs rfl ?_
    obtain ⟨xe,hxev⟩:∃ z,z=ends[s]'oM:=⟨_,rfl⟩
    have hxeg:(x.ends.getD s 0)=ends[s]'oM:=by rw [hxe];exact Cn7.gD oM
    refine Wu 1 [] hs rfl<|Bg [0,1,2,3,4,5,6,7,8,9,10,11,12,13,14,15,16,17,18,19] hs kR ?_
    replace hs:=hs.drew
    refine Xr [0] [4] hs rfl<|Xt 1 hs rfl (Yg rfl (hB1 4 _ rfl)<|Xr [2] [] hs rfl<|Xt 3 hs rfl (Ek hends s underlying22 sizeOf5 rfl rfl rfl oM fun p116 hp116=>?_))
    rw [← hxev] at hp116
    refine Xt 4 hs rfl (Yg rfl (hp116)<|Xt 5 hs rfl (Gq (c:=((xe % 3:UInt8).toNat:Int)) rfl rfl oM oM Z57<|Xt 6 hs rfl (gX (a:=97) rfl rfl<|Xt 7 hs rfl (Ce zeroValue76 rfl gN rfl (cs:=[_,_]) rfl<|Xt 8 hs rfl (Ce zeroValue76 rfl gN rfl (cs:=[_,_]) rfl<|Xr [11] [4] hs rfl<|Xt 12 hs rfl (Yg rfl (hB1 4 _ rfl)<|Xr [13] [] hs rfl<|Xt 14 hs rfl (Ek hends s underlying22 sizeOf5 rfl rfl rfl oM fun p127 hp127=>?_)))))))
    rw [← hxev] at hp127
    refine Xt 15 hs rfl (Yg rfl (hp127)<|Xt 16 hs rfl (Y_quo8 (a:=xe) rfl rfl<|Xt 17 hs rfl (Gq (c:=((xe.toNat / 3 % 3:Nat):Int)) rfl rfl oM oM oM ?_)))
    have hle:=hs.le
    refine Xo 9 rfl (Cq hs hM0 underlying72 sizeOf76 zeroValue76 rfl rfl dC dC rfl (cs:=[_,_,_,_]) rfl rfl fun v14 _ _ hG122 hl122 hs=>?_)
    replace hmp:=hmp.mono hG122
    replace hB1:=hB1.mono hG122
    replace hms:=hms.mono hG122
    replace hbs:=hbs.mono hG122
    replace hlg0:=hlg0.mono hG122
    refine Ai hs hle hG122 (lSr _) ?_
    have hle:=hs.le
    refine Xo 10 rfl (Sc (wref7_ok (l:=[⟨false,97+xe % 3⟩,⟨false,98⟩]) (b:=97) (Vk (l:=[⟨false,97+xe % 3⟩,⟨false,98⟩]) hl122) sM) hs rfl fun v15 G' H' _ hR hG123 hs=>?_)
    obtain ⟨rfl,hwr⟩:=hR
    obtain ⟨A123,c123,rfl,_⟩:=id hwr
    replace hs:=hs.n rfl
    replace hmp:=hmp.mono hG123
    replace hB1:=hB1.mono hG123
    replace hms:=hms.mono hG123
    replace hbs:=hbs.mono hG123
    replace hlg0:=hlg0.mono hG123
    refine Ai hs hle hG123 (lSr _)<|Xt 18 hs rfl (Ys hwr 0 (xe.toNat / 3 % 3) underlying22 sizeOf5 rfl rfl ⟨_,_,rfl,rfl⟩ oM (by show _≤2;omega) fun s131 hs131=>?_)
    obtain ⟨A131,c131,rfl,_⟩:=id hs131
    refine Xr [19] [] hs rfl<|Xe (Zk [1,2,3,4,5,6,7,8,12] rfl ?_)
    have hsN:=hs.fixRow noM
    clear hs
    obtain ⟨_,hG_hmr0,hmr0,hs⟩:=hsN
    have hsN:=hs
    obtain ⟨rw,hrwe⟩:∃ r,r=gZ x s:=⟨_,rfl⟩
    replace hmp:=hmp.mono hG_hmr0
    have hmr:nY _ v8 rw:=gP hmr0 Z27 (by rw [hrwe];unfold gZ;rw [← hax];exact hmp)
    clear hmr0
    obtain ⟨Aw,cw,rfl⟩:=hmr.slice
    have hs:=hsN
    clear hsN
    refine Wu 5 [1,0] hs rfl<|O_s (Cq hs hM0 underlying29 sizeOf71 zeroValue71 rfl rfl dC dC rfl (cs:=[_]) rfl rfl fun v16 _ _ hG135 hl135 hs =>O_s (Au hs.f1 underlying29 Tm rfl dC rfl rfl (hl135) (Cp rfl) oM oM fun v17 _ hs =>Wp 1 [1] hs rfl<|O_n (Sd hs.f1 rfl (hs.f1.rowOne 1 rfl) fun _ hs=>Wp 2 [0] hs rfl<|Bg [0,1,2,3,4,5,6,7,8] hs kR ?_)))
    replace hs:=hs.drew
    refine Xr [0,1,2] [2,0,3] hs rfl ?_
    replace hB1:=hB1.mono (hG_hmr0.trans hG135)
    refine Xt 3 hs rfl (Yg rfl (hB1 3 _ rfl)<|Xr [4] [] hs rfl<|Xt 5 hs rfl (Mh (c:=(qf:Int)) rfl rfl oM (by rw [cG _ _ oM,hqf])<|Xt 6 hs rfl (Gq (c:=((qf % 2:Nat):Int)) rfl rfl oM oM oM<|Xt 7 hs rfl (My (t:=Qf x s) rfl rfl rfl Z20 ?_))))
    have hle:=hs.le
    refine Xo 8 rfl (Cq hs hM0 underlying30 sizeOf4 zeroValue4 rfl rfl dC dC rfl (cs:=[_]) rfl rfl fun v18 _ _ hG146 hl146 hs=>?_)
    have hGz:=hG_hmr0.trans (hG135.trans hG146)
    replace hms:=hms.mono hGz
    replace hbs:=hbs.mono hGz
    replace hlg0:=hlg0.mono hGz
    replace hs131:=hs131.mono hGz
    replace hmr:=hmr.mono (hG135.trans hG146)
    refine Ai hs hle hG146 (lSr _)<|Xa 9 rfl (Au hs.f2 underlying30 Pw rfl dC rfl rfl (hl146) (Cp rfl) oM oM fun v19 _ hs =>Xa 10 rfl (S_y hs rfl (Yf 2 rfl<|Xn 11 rfl (Sd hs.f1 rfl (hs.f1.rowOne 1 rfl) fun _ hs=>Xe (Zk [1,2,3,4,5,6,7,12] rfl ?_)))))
    have hend:Uy x s=(List.drop 0 (Gt [⟨false,97+xe % 3⟩,⟨false,98⟩] 97)).take (xe.toNat / 3 % 3-0):=by unfold Uy;rw [if_pos ⟨by rw [hxe];omega,by unfold Qf;rw [hxf,← hqf,decide_eq_true_iff];omega⟩,hxeg,← hxev,u97];rfl
    have hen:=bcast hend.symm hs131
    refine Wu 4 [3,0] hs rfl<|O_s (Cq hs hM0 underlying31 sizeOf22 zeroValue22 rfl rfl dC dC rfl (cs:=[_]) rfl rfl fun v20 _ _ hG152 hl152 hs =>O_s (Au hs.f3 underlying31 Od rfl dC rfl rfl (hl152) (Cp rfl) oM oM fun v21 _ hs =>Wp 1 [3] hs rfl<|O_n (Sd hs.f1 rfl (hs.f1.rowOne 1 rfl) fun _ hs=>Wp 3 [0] hs rfl<|Zy hs (Ya (s:=((s+1:Nat):Int)) rfl<|Wp 1 [] hs rfl ?_))))
    have hs:=hs.f4.f2.f3.f4.f4
    replace hms:=hms.mono hG152
    replace hbs:=hbs.mono hG152
    replace hlg0:=hlg0.mono hG152
    replace hmr:=hmr.mono hG152
    replace hen:=hen.mono hG152
    refine Zx [1,2,3,4,5,6,7] rfl ⟨s+1,ax+(x.k+1),_,_,_,_,_,_,hlg0,by omega,by rw [hax,AcK],by rw [Fx,← hrwe];exact Cw.snoc hms hmr,by rw [Fx];exact Cw.snoc hbs hen,rfl,rfl,Bh (hs.wk [_,_,_,_,_]) Z50⟩
   refine Wp 4 [10,1,2,3,4,5,6,7,8,12,112] hs rfl ?_
   have hsN:=hs.fixRow noM
   clear hs
   obtain ⟨_,hG_hmr0,hmr0,hs⟩:=hsN
   have hsN:=hs
   obtain ⟨rw,hrwe⟩:∃ r,r=gZ x s:=⟨_,rfl⟩
   replace hmp:=hmp.mono hG_hmr0
   have hmr:nY _ v8 rw:=gP hmr0 Z27 (by rw [hrwe];unfold gZ;rw [← hax];exact hmp)
   clear hmr0
   obtain ⟨Aw,cw,rfl⟩:=hmr.slice
   have hs:=hsN
   clear hsN
   refine Wu 5 [1,0] hs rfl<|O_s (Cq hs hM0 underlying29 sizeOf71 zeroValue71 rfl rfl dC dC rfl (cs:=[_]) rfl rfl fun v22 _ _ hG135 hl135 hs =>O_s (Au hs.f1 underlying29 Tm rfl dC rfl rfl (hl135) (Cp rfl) oM oM fun v23 _ hs =>Wp 1 [1] hs rfl<|O_n (Sd hs.f1 rfl (hs.f1.rowOne 1 rfl) fun _ hs=>Wp 2 [0] hs rfl<|Bg [0,1,2,3,4,5,6,7,8] hs kR ?_)))
   replace hs:=hs.drew
   refine Xr [0,1,2] [2,0,3] hs rfl ?_
   replace hB1:=hB1.mono (hG_hmr0.trans hG135)
   refine Xt 3 hs rfl (Yg rfl (hB1 3 _ rfl)<|Xr [4] [] hs rfl<|Xt 5 hs rfl (Mh (c:=(qf:Int)) rfl rfl oM (by rw [cG _ _ oM,hqf])<|Xt 6 hs rfl (Gq (c:=((qf % 2:Nat):Int)) rfl rfl oM oM oM<|Xt 7 hs rfl (My (t:=Qf x s) rfl rfl rfl Z20 ?_))))
   have hle:=hs.le
   refine Xo 8 rfl (Cq hs hM0 underlying30 sizeOf4 zeroValue4 rfl rfl dC dC rfl (cs:=[_]) rfl rfl fun v24 _ _ hG146 hl146 hs=>?_)
   have hGz:=hG_hmr0.trans (hG135.trans hG146)
   replace hms:=hms.mono hGz
   replace hbs:=hbs.mono hGz
   replace hlg0:=hlg0.mono hGz
   replace hl99:=hl99.mono hGz
   replace hmr:=hmr.mono (hG135.trans hG146)
   refine Ai hs hle hG146 (lSr _)<|Xa 9 rfl (Au hs.f2 underlying30 Pw rfl dC rfl rfl (hl146) (Cp rfl) oM oM fun v25 _ hs =>Xa 10 rfl (S_y hs rfl (Yf 2 rfl<|Xn 11 rfl (Sd hs.f1 rfl (hs.f1.rowOne 1 rfl) fun _ hs=>Xe (Zk [1,2,3,4,5,6,7,12] rfl ?_)))))
   have hen:Bd _ (.slice A99 0 c99) (Uy x s):=(show Uy x s=[] from by unfold Uy;rw [if_neg (by rintro ⟨h8,h9⟩;unfold Qf at h9;rw [hxf,← hqf,decide_eq_true_iff] at h9;omega)])▸(show Bd _ _ [] from hl99)
   refine Wu 4 [3,0] hs rfl<|O_s (Cq hs hM0 underlying31 sizeOf22 zeroValue22 rfl rfl dC dC rfl (cs:=[_]) rfl rfl fun v26 _ _ hG152 hl152 hs =>O_s (Au hs.f3 underlying31 Od rfl dC rfl rfl (hl152) (Cp rfl) oM oM fun v27 _ hs =>Wp 1 [3] hs rfl<|O_n (Sd hs.f1 rfl (hs.f1.rowOne 1 rfl) fun _ hs=>Wp 3 [0] hs rfl<|Zy hs (Ya (s:=((s+1:Nat):Int)) rfl<|Wp 1 [] hs rfl ?_))))
   have hs:=hs.f4.f2.f3.f4.f4
   replace hms:=hms.mono hG152
   replace hbs:=hbs.mono hG152
   replace hlg0:=hlg0.mono hG152
   replace hmr:=hmr.mono hG152
   replace hen:=hen.mono hG152
   refine Zx [1,2,3,4,5,6,7] rfl ⟨s+1,ax+(x.k+1),_,_,_,_,_,_,hlg0,by omega,by rw [hax,AcK],by rw [Fx,← hrwe];exact Cw.snoc hms hmr,by rw [Fx];exact Cw.snoc hbs hen,rfl,rfl,Bh (hs.wk [_,_,_,_,_]) Z50⟩
  refine Wp 11 [10,1,2,3,4,5,6,7,8,12,112] hs rfl ?_
  have hsN:=hs.fixRow noM
  clear hs
  obtain ⟨_,hG_hmr0,hmr0,hs⟩:=hsN
  have hsN:=hs
  obtain ⟨rw,hrwe⟩:∃ r,r=gZ x s:=⟨_,rfl⟩
  replace hmp:=hmp.mono hG_hmr0
  have hmr:nY _ v8 rw:=gP hmr0 Z27 (by rw [hrwe];unfold gZ;rw [← hax];exact hmp)
  clear hmr0
  obtain ⟨Aw,cw,rfl⟩:=hmr.slice
  have hs:=hsN
  clear hsN
  refine Wu 5 [1,0] hs rfl<|O_s (Cq hs hM0 underlying29 sizeOf71 zeroValue71 rfl rfl dC dC rfl (cs:=[_]) rfl rfl fun v28 _ _ hG135 hl135 hs =>O_s (Au hs.f1 underlying29 Tm rfl dC rfl rfl (hl135) (Cp rfl) oM oM fun v29 _ hs =>Wp 1 [1] hs rfl<|O_n (Sd hs.f1 rfl (hs.f1.rowOne 1 rfl) fun _ hs=>Wp 2 [0] hs rfl<|Bg [0,1,2,3,4,5,6,7,8] hs kR ?_)))
  replace hs:=hs.drew
  refine Xr [0,1,2] [2,0,3] hs rfl ?_
  replace hB1:=hB1.mono (hG_hmr0.trans hG135)
  refine Xt 3 hs rfl (Yg rfl (hB1 3 _ rfl)<|Xr [4] [] hs rfl<|Xt 5 hs rfl (Mh (c:=(qf:Int)) rfl rfl oM (by rw [cG _ _ oM,hqf])<|Xt 6 hs rfl (Gq (c:=((qf % 2:Nat):Int)) rfl rfl oM oM oM<|Xt 7 hs rfl (My (t:=Qf x s) rfl rfl rfl Z20 ?_))))
  have hle:=hs.le
  refine Xo 8 rfl (Cq hs hM0 underlying30 sizeOf4 zeroValue4 rfl rfl dC dC rfl (cs:=[_]) rfl rfl fun v30 _ _ hG146 hl146 hs=>?_)
  have hGz:=hG_hmr0.trans (hG135.trans hG146)
  replace hms:=hms.mono hGz
  replace hbs:=hbs.mono hGz
  replace hlg0:=hlg0.mono hGz
  replace hl99:=hl99.mono hGz
  replace hmr:=hmr.mono (hG135.trans hG146)
  refine Ai hs hle hG146 (lSr _)<|Xa 9 rfl (Au hs.f2 underlying30 Pw rfl dC rfl rfl (hl146) (Cp rfl) oM oM fun v31 _ hs =>Xa 10 rfl (S_y hs rfl (Yf 2 rfl<|Xn 11 rfl (Sd hs.f1 rfl (hs.f1.rowOne 1 rfl) fun _ hs=>Xe (Zk [1,2,3,4,5,6,7,12] rfl ?_)))))
  have hen:Bd _ (.slice A99 0 c99) (Uy x s):=(show Uy x s=[] from by unfold Uy;rw [if_neg (by rintro ⟨h8,h9⟩;rw [hxe] at h8;omega)])▸(show Bd _ _ [] from hl99)
  refine Wu 4 [3,0] hs rfl<|O_s (Cq hs hM0 underlying31 sizeOf22 zeroValue22 rfl rfl dC dC rfl (cs:=[_]) rfl rfl fun v32 _ _ hG152 hl152 hs =>O_s (Au hs.f3 underlying31 Od rfl dC rfl rfl (hl152) (Cp rfl) oM oM fun v33 _ hs =>Wp 1 [3] hs rfl<|O_n (Sd hs.f1 rfl (hs.f1.rowOne 1 rfl) fun _ hs=>Wp 3 [0] hs rfl<|Zy hs (Ya (s:=((s+1:Nat):Int)) rfl<|Wp 1 [] hs rfl ?_))))
  have hs:=hs.f4.f2.f3.f4.f4
  replace hms:=hms.mono hG152
  replace hbs:=hbs.mono hG152
  replace hlg0:=hlg0.mono hG152
  replace hmr:=hmr.mono hG152
  replace hen:=hen.mono hG152
  refine Zx [1,2,3,4,5,6,7] rfl ⟨s+1,ax+(x.k+1),_,_,_,_,_,_,hlg0,by omega,by rw [hax,AcK],by rw [Fx,← hrwe];exact Cw.snoc hms hmr,by rw [Fx];exact Cw.snoc hbs hen,rfl,rfl,Bh (hs.wk [_,_,_,_,_]) Z50⟩
 refine Wp 3 [0] hs rfl ?_
 obtain rfl:s=x.n:=by omega
 have hs:=hs.f1
 have hsN:=hs.fixRow noM
 clear hs
 obtain ⟨_,hG_hfm,hfm,hs⟩:=hsN
 have hs:=hs.f1
 have hsN:=hs.fixRow noM
 clear hs
 obtain ⟨_,hG_hff,hff,hs⟩:=hsN
 have hs:=hs.f1
 have hsN:=hs.fixRow noM
 clear hs
 obtain ⟨_,hG_hfe,hfe,hs⟩:=hsN
 replace hfm:=hfm.mono (hG_hff.trans hG_hfe)
 obtain ⟨AM,cM,rfl,_⟩:=id hfm
 replace hff:=hff.mono hG_hfe
 obtain ⟨AF,cF,rfl,_⟩:=id hff
 obtain ⟨AE,cE,rfl,_⟩:=id hfe
 refine Wu 3 [0] hs rfl<|O_n (Sg hs.f1 rfl (rfl) fun _ hs=>Wp 1 [0] hs rfl<|As<|Zz results13 (Rb 0 hs rfl rF) ?_)
 have hDe:Mn x=⟨L,(List.range x.n).map (gZ x),(List.range x.n).map (Qf x),(List.range x.n).map (Uy x)⟩:=by rw [hLe];rfl
 have hGz:=hG_hfm.trans (hG_hff.trans hG_hfe)
 replace hms:=hms.mono hGz
 replace hbs:=hbs.mono hGz
 replace hL:=hL.mono hGz
 exact hs.q (by rw [hDe];exact ⟨_,_,_,_,rfl,hL,mm_fin hfm (by rw [AaC,AaO]) hms,(show Dt _ _ _ from by unfold Dt;rw [AaC,AaO];exact hff),Es.fin hfe (by rw [AaC,AaO]) hbs⟩)
deriving instance DecidableEq for Cy
def clR7:List Nat:=[18446744073709551615,18446744047939747839,18446744073709551615,18446744073709551615]
def Ub:Cy:=⟨[clR7,[0,8589934592,0,0],[0,17179869184,0,0]],[[1,2,3],[1,1,1],[1,1,1],[1,1,2]],[false,false,true,false]⟩
def Tv:Cy:=⟨[[18446744065119617023,18446744056529682431,18446744073709551615,18446744073709551615],[8589934592,0,0,0],[0,17179869184,0,0]],[[1,1,2],[1,1,1],[1,1,3],[1,4,1],[1,1,1]],[false,false,false,false,true]⟩
theorem canE0:Eu (Av Ub)=some Ub:=by decide +kernel
theorem canB0:Eu (Av Tv)=some Tv:=by decide +kernel
theorem ptE7:Cn7.ptB Ub.cls=true:=by decide +kernel
theorem ptB7:Cn7.ptB Tv.cls=true:=by decide +kernel
theorem pt97:Cn7.ptB (Gg [vS])=true:=by decide +kernel
theorem netE7:(jP Gk (Av Ub)).map (·.1.read.length)=some 9:=by decide +kernel
theorem dblV:Gh Gk=true:=by decide +kernel
theorem zeroV:Gh ⟨[],[],[],[]⟩=false:=by decide +kernel
theorem comV:(match uE Gk Gk with | some C=>Gh C | none=>false)=true:=by decide +kernel
theorem dblM:∀ b,b<256→(Dv Gk 0 (UInt8.ofNat b)).to=0∧Gt (Dv Gk 0 (UInt8.ofNat b)).out (UInt8.ofNat b)=if UInt8.ofNat b=97 then [98,98] else [UInt8.ofNat b]:=by decide +kernel
theorem dok_of {D:Cy} (hp:Cn7.PartOk D.cls) (h1:1≤D.next.length) (h2:D.next.length≤60000) (ha:D.acc.length=D.next.length) (hr:∀ r∈D.next,r.length=D.cls.length∧∀ x∈r,x<D.next.length):Cn7.DOk D:=⟨h1,h2,ha,hp.k2,hp.c4,hp.ne,hp.un,hp.cv,hr⟩
theorem sZ {D:Cy} (h:Cn7.DOk D) (hc:Eu (Av D)=some D):Cn7.Can D:=by
  obtain ⟨c,h1,h2,_⟩:=Cn7.canon_ok (Cn7.tab_ok h)
  rw [hc] at h1;injection h1 with h1;rw [h1];exact h2
theorem dokE:Cn7.DOk Ub:=dok_of (Cn7.ptB_ok ptE7).part dC dC rfl dC
theorem dokB:Cn7.DOk Tv:=dok_of (Cn7.ptB_ok ptB7).part dC dC rfl dC
theorem canE:Cn7.Can Ub:=sZ dokE canE0
theorem canB:Cn7.Can Tv:=sZ dokB canB0
theorem Lg:Cn7.TrOk Gk:=Cn7.trOk_of (Cn7.ptB_ok pt97).part dblV
def dblB (x:UInt8):List UInt8:=if x=97 then [98,98] else [x]
theorem dbl_mv (x:UInt8):(Dv Gk 0 x).to=0∧Gt (Dv Gk 0 x).out x=dblB x:=by
  have h:=dblM x.toNat x.toNat_lt
  rw [Cn7.o8] at h;exact h
theorem Ns:∀ w:List UInt8,Bo Gk 0 w=some (w.flatMap dblB++[33])
  | []=>rfl
  | x::w=>by
    obtain ⟨h1,h2⟩:=dbl_mv x
    have ih:=Ns w
    rw [Bo,h1]
    simp [ih,h2]
theorem hZ {w:List UInt8}:Bo Gk 0 w=some [98,98,33]↔w=[97]∨w=[98,98]:=by
  rw [Ns,Option.some.injEq,show ([98,98,33]:List UInt8)=[98,98]++[33] from rfl,List.append_cancel_right_eq]
  constructor
  · intro h
    cases w with
    | nil=>cases h
    | cons x w =>
      rw [Aan] at h
      unfold dblB at h
      split at h
      · rename_i hx
        left
        cases w with
        | nil=>rw [hx]
        | cons y w=>rw [Aan] at h;split at h<;>simp at h
      · injection h with hx h
        right
        cases w with
        | nil=>cases h
        | cons y w =>
          rw [Aan] at h
          split at h
          · simp at h
          · injection h with hy h
            cases w with
            | nil=>rw [hx,hy]
            | cons z w=>rw [Aan] at h;split at h<;>simp at h
  · rintro (rfl | rfl)<;>decide
theorem cI {S:List Nat} {N:Nat} (h:Cn7.Inc S) (hb:∀ s∈S,s<N+1) (hN:N∈S):∃ a,S=a++[N]∧Cn7.Inc a∧∀ s∈a,s<N:=by
  obtain ⟨a,b,rfl⟩:=sO (List.length_pos_of_mem hN)
  have h1:=Abq.1 h
  have hbN:b=N:=by
    have h2:=hb b sM
    rcases AaS.1 hN with h3 | h3
    · have:=h1.2.2 N h3 b sM;omega
    · exact (AaE.1 h3).symm
  subst hbN
  exact ⟨a,rfl,h1.1,fun s hs=>h1.2.2 s hs b sM⟩
theorem Mr:∀ (N:Nat) (l:List (List Nat)),l.Nodup→(∀ S∈l,Cn7.Inc S∧∀ s∈S,s<N)→l.length≤2 ^ N
  | 0,l,hn,h=>by
    have h0:∀ S∈l,S∈[([]:List Nat)]:=fun S hS=>by
      cases S with
      | nil=>simp
      | cons a S=>exact absurd ((h _ hS).2 a AaK) (Nat.not_lt_zero _)
    exact bY hn h0
  | N+1,l,hn,h=>by
    have e:l.length=(l.filter fun S=>decide (N∈S)).length+(l.filter fun S=>!decide (N∈S)).length:=by
      clear hn h
      induction l with
      | nil=>rfl
      | cons S l ih =>
        rw [List.filter_cons,List.filter_cons,AaZ,ih]
        by_cases hS:N∈S<;>simp [hS]<;>omega
    have h1:=Mr N (l.filter fun S=>!decide (N∈S)) (hn.filter _) fun S hS=>by
      obtain ⟨h2,h3⟩:=AcG.1 hS
      refine ⟨(h S h2).1,fun s hs=>?_⟩
      have h4:=(h S h2).2 s hs
      have h5:¬ s=N:=by rintro rfl;simp [hs] at h3
      omega
    have h6:=Mr N ((l.filter fun S=>decide (N∈S)).map List.dropLast) (by
      unfold List.Nodup;rw [List.pairwise_map]
      refine List.Pairwise.imp_of_mem (fun {S T} hS hT hne he=>hne ?_) (hn.filter _)
      obtain ⟨a1,a2⟩:=AcG.1 hS
      obtain ⟨b1,b2⟩:=AcG.1 hT
      obtain ⟨a,rfl,_⟩:=cI (h S a1).1 (h S a1).2 (of_decide_eq_true a2)
      obtain ⟨b,rfl,_⟩:=cI (h T b1).1 (h T b1).2 (of_decide_eq_true b2)
      rw [List.dropLast_concat,List.dropLast_concat] at he
      rw [he]) fun S hS=>by
      obtain ⟨T,hT,rfl⟩:=Aaf.1 hS
      obtain ⟨b1,b2⟩:=AcG.1 hT
      obtain ⟨b,rfl,hb1,hb2⟩:=cI (h T b1).1 (h T b1).2 (of_decide_eq_true b2)
      rw [List.dropLast_concat];exact ⟨hb1,hb2⟩
    rw [AaC] at h6
    rw [e,Abm];omega
theorem img_go {n:Nt} (hn:Cn7.NtR n) (hN:2 ^ n.read.length≤4096) {B:List Nat} {S0:List Nat}:∀ (f i:Nat) {l rows:List (List Nat)},Cn7.EI B (fS n) (Cn7.SOk n) S0 i l rows→4096<f+i →
    ∃ l' rows',Qw n B f i l rows=some (some (l',rows'))∧Cn7.EI B (fS n) (Cn7.SOk n) S0 l'.length l' rows'∧l'.length≤4096
  | 0,i,l,rows,h,hf=>by
    have h1:=Mr n.read.length l h.nd fun S hS=>⟨(h.ok S hS).inc,(h.ok S hS).lt⟩
    have:=h.il;omega
  | f+1,i,l,rows,h,hf=>by
    rw [Qw]
    cases hs:l[i]? with
    | none =>
      have hil:i=l.length:=by
        have:=h.il
        rcases AaM i l.length with h1 | h1
        · rw [AaA h1] at hs;cases hs
        · omega
      subst hil
      exact ⟨l,rows,rfl,h,Aai (Mr n.read.length l h.nd fun S hS=>⟨(h.ok S hS).inc,(h.ok S hS).lt⟩) hN⟩
    | some S =>
      obtain ⟨m,e,h1⟩:=Cn7.ei_row h hs fun b _=>(Cn7.nx_ok hn (h.ok S (AaF hs)) b).1
      dsimp only
      rw [e]
      dsimp only
      rw [if_neg (Nat.not_lt.2 (Aai (Mr n.read.length _ h1.nd fun S hS=>⟨(h1.ok S hS).inc,(h1.ok S hS).lt⟩) hN))]
      exact img_go hn hN f (i+1) h1 oM
theorem img_lim {t:Tr} {d:Cy} (ht:Cn7.TrOk t) (hd:Cn7.DOk d) (h64:d.next.length≤64) (hN:∀ c n a,Eu (Av d)=some c→jP t (Av c)=some (n,a)→2 ^ n.read.length≤4096) :
    ∃ D,Cn7.Can D∧(∀ w,Cn7.lb (Av D) 0 w=true↔Cn7.Out t (Av d) (0,0) w)∧cV t d=some (if D.next.length≤64 then some D else none):=by
  obtain ⟨c,hc,hcan,hcn,hcl⟩:=Cn7.canon_ok (Cn7.tab_ok hd)
  have hcn':c.next.length≤d.next.length:=hcn
  obtain ⟨n,at_,ho,hok,hnl,hat,hrg,hpath⟩:=Cn7.out_ok ht hcan.ok oM
  have hn:Cn7.NtR n:=⟨hok,hrg⟩
  obtain ⟨S0,hS0,s1,s2,s3⟩:=Cn7.clo_ok hn (set:=[at_]) fun s hs=>by rw [AaE.1 hs];exact hat
  have hS0k:Cn7.SOk n S0:=⟨s1,s2,fun s hs r hr=>by
    obtain ⟨a,ha,hf⟩:=(s3 s).1 hs
    exact (s3 r).2 ⟨a,ha,hf.trans hr⟩⟩
  obtain ⟨l,rows,e,E,hl⟩:=img_go hn (hN c n at_ hc ho) (B:=List.range 256) 5000 0 (Cn7.ei_start hS0k) oM
  have hA:=Cn7.ei_rows E oM Nj
  obtain ⟨R,hR,_,D,h1,h3,h4⟩:=Cn7.min_ok hA fun s hs=>Cn7.ei_reach E _ s (by rw [← E.rl];exact hs)
  refine ⟨D,h1,fun w=>?_,?_⟩
  · rw [h3 w,Cn7.ei_lang E (sem:=Cn7.semI n) (fun s hs=>Cn7.semI_nil hs) (fun s hs x w=>Cn7.semI_cons hn hs x w) w 0 _ E.hd]
    rw [Cn7.semI_iff]
    constructor
    · rintro ⟨s,hs,hp⟩
      obtain ⟨a,ha,hf⟩:=(s3 s).1 hs
      rw [AaE.1 ha] at hf
      obtain ⟨x,hx1,hx2⟩:=(hpath w).1 (Cn7.fr_path hf hp)
      exact ⟨x,hx1,by rw [← hcl x];exact hx2⟩
    · rintro ⟨x,hx1,hx2⟩
      exact ⟨at_,(s3 at_).2 ⟨at_,by simp,.nil at_⟩,(hpath w).2 ⟨x,hx1,by rw [hcl x];exact hx2⟩⟩
  · unfold cV;rw [hc];dsimp only;rw [ho];dsimp only;rw [hS0];dsimp only;rw [e];dsimp only;rw [hR,h4]
theorem cellE:(Av Ub).cell=(List.range 256).map fun b=>if b=97 then 1 else if b=98 then 2 else 0:=by decide +kernel
theorem cellB:(Av Tv).cell=(List.range 256).map fun b=>if b=33 then 1 else if b=98 then 2 else 0:=by decide +kernel
theorem stE (s b:Nat) (hb:b<256):Cn7.step (Av Ub) s b=(Ub.next.getD s []).getD (if b=97 then 1 else if b=98 then 2 else 0) 0:=by
  unfold Cn7.step;rw [cellE,Cn7.rangeMap_getD hb];rfl
theorem stB (s b:Nat) (hb:b<256):Cn7.step (Av Tv) s b=(Tv.next.getD s []).getD (if b=33 then 1 else if b=98 then 2 else 0) 0:=by
  unfold Cn7.step;rw [cellB,Cn7.rangeMap_getD hb];rfl
theorem nE1 (x:UInt8):Cn7.step (Av Ub) 1 x.toNat=1:=by rw [stE _ _ x.toNat_lt];split;rfl;split<;>rfl
theorem lE1:∀ w:List UInt8,Cn7.lb (Av Ub) 1 w=false
  | []=>rfl
  | x::w=>by rw [Cn7.lb,nE1];exact lE1 w
theorem vT {x:UInt8} {n:Nat} (h:x.toNat=n):x=UInt8.ofNat n:=by rw [← h,Cn7.o8]
theorem lE2:∀ w:List UInt8,Cn7.lb (Av Ub) 2 w=true↔w=[]
  | []=>⟨fun _=>rfl,fun _=>rfl⟩
  | x::w=>by
    rw [Cn7.lb,show Cn7.step (Av Ub) 2 x.toNat=1 from by rw [stE _ _ x.toNat_lt];split;rfl;split<;>rfl,lE1];simp
theorem lE3:∀ w:List UInt8,Cn7.lb (Av Ub) 3 w=true↔w=[98]
  | []=>⟨fun h=>Wn,fun h=>Wn⟩
  | x::w=>by
    rw [Cn7.lb]
    by_cases h:x.toNat=98
    · rw [show Cn7.step (Av Ub) 3 x.toNat=2 from by rw [stE _ _ x.toNat_lt,h];rfl,lE2,vT h];simp
    · rw [show Cn7.step (Av Ub) 3 x.toNat=1 from by rw [stE _ _ x.toNat_lt,if_neg h];split<;>rfl,lE1]
      refine ⟨fun h2=>(by cases h2),fun h2=>?_⟩
      injection h2 with h2 _;exact absurd (by rw [h2];rfl) h
theorem lE0:∀ w:List UInt8,Cn7.lb (Av Ub) 0 w=true↔w=[97]∨w=[98,98]
  | []=>⟨fun h=>Wn,fun h=>(by rcases h with h|h<;>cases h)⟩
  | x::w=>by
    rw [Cn7.lb]
    by_cases h:x.toNat=97
    · rw [show Cn7.step (Av Ub) 0 x.toNat=2 from by rw [stE _ _ x.toNat_lt,h];rfl,lE2,vT h];simp
    · by_cases h2:x.toNat=98
      · rw [show Cn7.step (Av Ub) 0 x.toNat=3 from by rw [stE _ _ x.toNat_lt,h2];rfl,lE3,vT h2];simp
      · rw [show Cn7.step (Av Ub) 0 x.toNat=1 from by rw [stE _ _ x.toNat_lt,if_neg h,if_neg h2];rfl,lE1]
        refine ⟨fun h3=>(by cases h3),fun h3=>?_⟩
        rcases h3 with h3 | h3
        · injection h3 with h3 _;exact absurd (by rw [h3];rfl) h
        · injection h3 with h3 _;exact absurd (by rw [h3];rfl) h2
theorem lB1:∀ w:List UInt8,Cn7.lb (Av Tv) 1 w=false
  | []=>rfl
  | x::w=>by rw [Cn7.lb,show Cn7.step (Av Tv) 1 x.toNat=1 from by rw [stB _ _ x.toNat_lt];split;rfl;split<;>rfl];exact lB1 w
theorem lB4:∀ w:List UInt8,Cn7.lb (Av Tv) 4 w=true↔w=[]
  | []=>⟨fun _=>rfl,fun _=>rfl⟩
  | x::w=>by
    rw [Cn7.lb,show Cn7.step (Av Tv) 4 x.toNat=1 from by rw [stB _ _ x.toNat_lt];split;rfl;split<;>rfl,lB1];simp
theorem lB3:∀ w:List UInt8,Cn7.lb (Av Tv) 3 w=true↔w=[33]
  | []=>⟨fun h=>Wn,fun h=>Wn⟩
  | x::w=>by
    rw [Cn7.lb]
    by_cases h:x.toNat=33
    · rw [show Cn7.step (Av Tv) 3 x.toNat=4 from by rw [stB _ _ x.toNat_lt,h];rfl,lB4,vT h];simp
    · rw [show Cn7.step (Av Tv) 3 x.toNat=1 from by rw [stB _ _ x.toNat_lt,if_neg h];split<;>rfl,lB1]
      refine ⟨fun h2=>(by cases h2),fun h2=>?_⟩
      injection h2 with h2 _;exact absurd (by rw [h2];rfl) h
theorem lB2:∀ w:List UInt8,Cn7.lb (Av Tv) 2 w=true↔w=[98,33]
  | []=>⟨fun h=>Wn,fun h=>Wn⟩
  | x::w=>by
    rw [Cn7.lb]
    by_cases h:x.toNat=98
    · rw [show Cn7.step (Av Tv) 2 x.toNat=3 from by rw [stB _ _ x.toNat_lt,h];rfl,lB3,vT h];simp
    · rw [show Cn7.step (Av Tv) 2 x.toNat=1 from by rw [stB _ _ x.toNat_lt,if_neg h];split<;>rfl,lB1]
      refine ⟨fun h2=>(by cases h2),fun h2=>?_⟩
      injection h2 with h2 _;exact absurd (by rw [h2];rfl) h
theorem lB0:∀ w:List UInt8,Cn7.lb (Av Tv) 0 w=true↔w=[98,98,33]
  | []=>⟨fun h=>Wn,fun h=>Wn⟩
  | x::w=>by
    rw [Cn7.lb]
    by_cases h:x.toNat=98
    · rw [show Cn7.step (Av Tv) 0 x.toNat=2 from by rw [stB _ _ x.toNat_lt,h];rfl,lB2,vT h];simp
    · rw [show Cn7.step (Av Tv) 0 x.toNat=1 from by rw [stB _ _ x.toNat_lt,if_neg h];split<;>rfl,lB1]
      refine ⟨fun h2=>(by cases h2),fun h2=>?_⟩
      injection h2 with h2 _;exact absurd (by rw [h2];rfl) h
theorem img_dE:cV Gk Ub=some (some Tv):=by
  obtain ⟨D,h1,h2,h3⟩:=img_lim Lg dokE dC fun c n a hc ho=>by
    rw [canE0] at hc;injection hc with hc;subst hc
    have h9:=netE7
    rw [ho] at h9
    have h8:n.read.length=9:=by simpa using h9
    rw [h8];decide
  have hD:D=Tv:=Cn7.can_unique h1 canB fun w=>by
    rw [AbG,h2 w,lB0 w]
    constructor
    · rintro ⟨x,hx1,hx2⟩
      rcases (lE0 x).1 hx2 with rfl | rfl
      · have:=hZ.2 (.inl rfl);rw [hx1] at this;exact Option.some.inj this
      · have:=hZ.2 (.inr rfl);rw [hx1] at this;exact Option.some.inj this
    · rintro rfl
      exact ⟨[97],hZ.2 (.inl rfl),(lE0 _).2 (.inl rfl)⟩
  rw [h3,hD];rfl
theorem pre_dB:nJ Gk Tv=some (some Ub):=by
  obtain ⟨R,h1,h2,D,h3,h4,h5⟩:=Cn7.pre_ok Lg dokB dC
  have hD:D=Ub:=Cn7.can_unique h3 canE fun w=>by
    rw [h4 w,AbG,lE0 w,← hZ]
    dsimp only
    cases e:Bo Gk 0 w with
    | none=>exact ⟨fun h=>Wn,fun h=>Wn⟩
    | some o=>dsimp only;rw [lB0,Option.some.injEq]
  rw [h1,h5,hD];rfl
theorem run_ca:Bo Gk 0 [99,97]=some [99,98,98,33]:=by rw [Ns];rfl
def nilD7:Cy:=⟨[],[],[]⟩
def Rp (R:Option Cy):Int:=if R.isSome then 0 else 2
def rD (R:Option Cy):Cy:=R.getD nilD7
theorem DE.op {r:Value} {R:Option Cy} (h:DE G r R):∃ vd,r=.tuple #[vd,Vi (Rp R)]∧Hm G vd (rD R):=by
  cases R with
  | none=>exact ⟨_,h,_,_,_,rfl,Bi.nil,Bi.nil,Sl.nil _ _⟩
  | some D=>exact h
theorem smNil:SmOk nilD7:=⟨Aas _,rfl,Aas _,fun _ h=>by cases h⟩
theorem smR {L:List UInt8→Bool} {R:Option Cy} (h:Cn7.LimOf L R):SmOk (rD R):=by
  cases R with
  | none=>exact smNil
  | some D=>exact smOk h.some.1.ok
theorem DE.vals {r:Value} {R:Option Cy} (h:DE G r R):∃ a1 c1 a2 c2 a3 c3,r=.tuple #[.agg #[.slice a1 (rD R).cls.length c1,.slice a2 (rD R).next.length c2,.slice a3 (rD R).acc.length c3],Vi (Rp R)]∧Hl G (.slice a1 (rD R).cls.length c1) (rD R).cls∧LN G (.slice a2 (rD R).next.length c2) (rD R).next∧Dt G (.slice a3 (rD R).acc.length c3) (rD R).acc:=by
  obtain ⟨vd,e,c,n,a,e2,h1,h2,h3⟩:=h.op
  obtain ⟨A1,c1,rfl⟩:=Bi.slice h1
  obtain ⟨A2,c2,rfl⟩:=Bi.slice h2
  obtain ⟨A3,c3,rfl,_⟩:=id h3
  subst e2
  exact ⟨_,_,_,_,_,_,e,h1,h2,h3⟩
theorem Tw {v:Value} {d:Cy} (h:Hm G v d):∃ a1 c1 a2 c2 a3 c3,v=.agg #[.slice a1 d.cls.length c1,.slice a2 d.next.length c2,.slice a3 d.acc.length c3]∧Hl G (.slice a1 d.cls.length c1) d.cls∧LN G (.slice a2 d.next.length c2) d.next∧Dt G (.slice a3 d.acc.length c3) d.acc:=by
  obtain ⟨c,n,a,e2,h1,h2,h3⟩:=h
  obtain ⟨A1,c1,rfl⟩:=Bi.slice h1
  obtain ⟨A2,c2,rfl⟩:=Bi.slice h2
  obtain ⟨A3,c3,rfl,_⟩:=id h3
  exact ⟨_,_,_,_,_,_,e2,h1,h2,h3⟩
theorem lX {R:Option Cy} (h:Rp R=0):R=some (rD R):=by
  cases R with
  | none=>exact absurd h dC
  | some D=>rfl
theorem Rn {R:Option Cy} (h:¬ Rp R=0):Rp R=2:=by
  unfold Rp at h ⊢;split
  · rename_i h2;rw [if_pos h2] at h;exact absurd rfl h
  · rfl
theorem Tx {L M:List UInt8→Bool} {R S:Option Cy} (h:Cn7.LimOf L R) (h2:Cn7.LimOf M S) (e:∀ w,L w=M w):Rp R=Rp S∧lS (rD R) (rD S)=true:=by
  rw [h.unique h2 e];exact ⟨rfl,Ga.2 rfl⟩
theorem Ty {D:Cy} (h:Cn7.Can D) (h64:D.next.length≤64) {L:List UInt8→Bool} (hl:∀ w,Cn7.lb (Av D) 0 w=L w):Cn7.LimOf L (some D):=⟨D,h,hl,(if_pos h64).symm⟩
theorem Bf {L:List UInt8→Bool} {R:Option Cy} (h:Cn7.LimOf L R) (h0:Rp R=0):Cn7.DOk (rD R)∧(rD R).next.length≤64∧Cn7.Can (rD R)∧∀ w,Cn7.lb (Av (rD R)) 0 w=L w:=by
  rw [lX h0] at h
  obtain ⟨h1,h2,h3⟩:=h.some
  exact ⟨h1.ok,h2,h1,h3⟩
theorem cJ {R:Option Cy} (h:R≠none):Rp R=0:=by
  cases R with
  | none=>exact absurd rfl h
  | some D=>rfl
def Iq (t:Tr) (d:Cy) (w:List UInt8):Bool:=match Bo t 0 w with
  | some o=>Cn7.lb (Av d) 0 o
  | none=>false
theorem dom_t {v:Value} {t:Tr} (ht:Mp G v t) (htok:Cn7.TrOk t) (hT:Tab G) (hm:t.moves.length≤63) :
    Ba prog 17 [v] G [] fun r G' H'=>H'=[]∧∃ R,DE G' r R∧Rp R=0∧Cn7.LimOf (fun w=>(Bo t 0 w).isSome) R:=(dom7_ok ht htok hT).mono fun r G' H' _ h=>by
  obtain ⟨h0,all,ha,R,hR,hde⟩:=h
  obtain ⟨R',h1,h2,h3⟩:=Cn7.pre_ok htok ha.1.ok (Aai ha.2.1 dC)
  rw [hR] at h1;injection h1 with h1;subst h1
  refine ⟨h0,R,hde,cJ (h2 ?_),h3.congr fun w=>?_⟩
  · have:=Nat.mul_le_mul_left t.moves.length ha.2.1
    omega
  · cases Bo t 0 w with
    | none=>rfl
    | some o=>exact ha.2.2 o
theorem Pg {v w2:Value} {t:Tr} {d:Cy} (ht:Mp G v t) (hd:Hm G w2 d) (htok:Cn7.TrOk t) (hk:Cn7.DOk d) (h64:d.next.length≤64) (hT:Tab G) :
    Ba prog 19 [v,w2] G [] fun r G' H'=>H'=[]∧∃ R,DE G' r R∧(t.moves.length*d.next.length+1≤64→Rp R=0)∧Cn7.LimOf (Iq t d) R:=(gJ ht hd htok hk h64 hT).mono fun r G' H' _ h=>by
  obtain ⟨h0,R,hR,hde⟩:=h
  obtain ⟨R',h1,h2,h3⟩:=Cn7.pre_ok htok hk h64
  rw [hR] at h1;injection h1 with h1;subst h1
  exact ⟨h0,R,hde,fun h=>cJ (h2 h),h3⟩
theorem Ro {v:Value} {wd:List UInt8} (hw:Bd G v wd) (hwl:wd.length≤62) :
    Ba prog 33 [v] G [] fun r G' H'=>H'=[]∧∃ R,DE G' r R∧Rp R=0∧Cn7.LimOf (fun u=>decide (u=wd)) R∧(rD R).next.length≤wd.length+2:=(zN hw hwl).mono fun r G' H' _ h=>by
  obtain ⟨h0,D,vd,e,hd,hc,hn,hl⟩:=h
  exact ⟨h0,some D,⟨vd,e,hd⟩,rfl,Ty hc oM hl,hn⟩
theorem Tz {v:Value} {d:Cy} (hd:Hm G v d) (hk:Cn7.DOk d) (h64:d.next.length≤64) (hT:Tab G) :
    Ba prog 37 [v] G [] fun r G' H'=>H'=[]∧∃ A c wd ok,r=.tuple #[.slice A wd.length c,.bool ok]∧Bd G' (.slice A wd.length c) wd∧(ok=true↔∃ u,Cn7.lb (Av d) 0 u=true)∧wd.length≤5000:=(leas_ok hd hk h64 hT).mono fun r G' H' _ h=>by
  obtain ⟨h0,w,ok,wd,e,hb,hi,hl⟩:=h
  obtain ⟨A,c,rfl,_⟩:=id hb
  exact ⟨h0,A,c,wd,ok,e,hb,hi,hl⟩
theorem Lx {v vb:Value} {t:Tr} {b:List UInt8} (ht:Mp G v t) (htok:Cn7.TrOk t) (hb:Bd G vb b) (hT:Tab G) (hbl:b.length≤100000000) :
    Ba prog 15 [v,vb] G [] fun r G' H'=>H'=[]∧∃ A c o,r=.tuple #[.slice A o.length c,.bool (Bo t 0 b).isSome]∧o=(Bo t 0 b).getD []∧Bd G' (.slice A o.length c) o:=(gE ht htok hb hT hbl).mono fun r G' H' _ h=>by
  obtain ⟨h0,u,e,hu⟩:=h
  obtain ⟨A,c,rfl,_⟩:=id hu
  exact ⟨h0,A,c,_,e,rfl,hu⟩
theorem run_t {v vb:Value} {t:Tr} {b o:List UInt8} (ht:Mp G v t) (htok:Cn7.TrOk t) (hb:Bd G vb b) (hT:Tab G) (hbl:b.length≤100000000) (h:Bo t 0 b=some o) :
    Ba prog 15 [v,vb] G [] fun r G' H'=>H'=[]∧∃ A c,r=.tuple #[.slice A o.length c,Vt]∧Bd G' (.slice A o.length c) o:=(Lx ht htok hb hT hbl).mono fun r G' H' _ h9=>by
  obtain ⟨h0,A,c,o',e,ho,hu⟩:=h9
  rw [h] at e ho
  subst ho
  exact ⟨h0,A,c,e,hu⟩
theorem wr_le7 (l:List Pc) (x:UInt8):(Gt l x).length=l.length:=AaC _
theorem tA {t:Tr} (ht:Cn7.TrOk t):∀ (w:List UInt8) (q:Nat) {o:List UInt8},q<t.moves.length→Bo t q w=some o→o.length≤8*w.length+8
  | [],q,o,hq,h=>by
    rw [Bo] at h
    split at h
    · injection h with h;subst h
      exact Aai (ht.en q hq).1 sM
    · cases h
  | x::w,q,o,hq,h=>by
    have hm:=ht.mv hq x
    rw [Bo] at h
    split at h
    · cases h
    · rename_i h1
      have h2:=fun {o}=>tA ht w (Dv t q x).to.toNat (o:=o) oM
      cases e:Bo t (Dv t q x).to.toNat w with
      | none=>rw [e,Option.map_none] at h;cases h
      | some o2 =>
        rw [e,Option.map_some] at h;injection h with h;subst h
        have:=h2 e
        rw [AaB,wr_le7,AaZ];omega
theorem limE:Cn7.LimOf (fun u=>decide (u=[97]) || decide (u=[98,98])) (some Ub):=Ty canE dC fun w=>by rw [AbG,lE0 w];simp
theorem limB:Cn7.LimOf (fun u=>decide (u=[98,98,33])) (some Tv):=Ty canB dC fun w=>by rw [AbG,lB0 w];simp
theorem preB_ok {v w2:Value} {R:Option Cy} (ht:Mp G v Gk) (hd:Hm G w2 (rD R)) (hR:Cn7.LimOf (fun u=>decide (u=[98,98,33])) R) (hT:Tab G) :
    Ba prog 19 [v,w2] G [] fun r G' H'=>H'=[]∧DE G' r (some Ub):=by
  obtain rfl:R=some Tv:=hR.unique limB fun _=>rfl
  exact (gJ ht hd Lg dokB dC hT).mono fun r G' H' _ h=>by
    obtain ⟨h0,R,hR,hde⟩:=h
    rw [show rD (some Tv)=Tv from rfl,pre_dB] at hR;injection hR with hR;subst hR;exact ⟨h0,hde⟩
theorem orE_ok {v1 v2:Value} {R1 R2:Option Cy} (hd1:Hm G v1 (rD R1)) (hd2:Hm G v2 (rD R2)) (h1:Cn7.LimOf (fun u=>decide (u=[97])) R1) (h2:Cn7.LimOf (fun u=>decide (u=[98,98])) R2) (e1:Rp R1=0) (e2:Rp R2=0) (hT:Tab G) :
    Ba prog 35 [v1,v2] G [] fun r G' H'=>H'=[]∧DE G' r (some Ub):=by
  obtain ⟨k1,n1,_,l1⟩:=Bf h1 e1
  obtain ⟨k2,n2,_,l2⟩:=Bf h2 e2
  exact (zI hd1 hd2 k1 k2 n1 n2 hT).mono fun r G' H' _ h=>by
    obtain ⟨h0,R,hl,_,hde⟩:=h
    obtain rfl:R=some Ub:=hl.unique limE fun w=>by rw [l1,l2]
    exact ⟨h0,hde⟩
theorem imgE_ok {v w2:Value} (ht:Mp G v Gk) (hd:Hm G w2 Ub) (hT:Tab G) :
    Ba prog 21 [v,w2] G [] fun r G' H'=>H'=[]∧DE G' r (some Tv):=(sT ht hd Lg dokE dC hT).mono fun r G' H' _ h=>by
  obtain ⟨h0,R,hR,hde⟩:=h
  rw [img_dE] at hR;injection hR with hR;subst hR;exact ⟨h0,hde⟩
def dbl2 (w:List UInt8):List UInt8:=(w.flatMap dblB++[33]).flatMap dblB++[33]
theorem lY {t u C:Tr} (h:Cn7.ComOk t u C) (hv:Gh C=true):Cn7.TrOk C:=Cn7.trOk_of h.part hv
theorem comE_ok {v v2:Value} (ht:Mp G v Gk) (hu:Mp G v2 Gk) (hT:Tab G) :
    Ba prog 25 [v,v2] G [] fun r G' H'=>H'=[]∧∃ C vt,r=.tuple #[vt,Vi 0]∧Mp G' vt C∧Cn7.TrOk C∧∀ w,Bo C 0 w=some (dbl2 w):=(sF ht hu Lg Lg hT).mono fun r G' H' _ h=>by
  obtain ⟨h0,C,hC,hte⟩:=h
  obtain ⟨C',hC',hk⟩:=Cn7.com_ok Lg Lg
  rw [hC] at hC';injection hC' with hC';subst hC'
  have hv:=comV
  rw [hC] at hv
  have hv:Gh C=true:=hv
  rw [if_pos hv] at hte
  obtain ⟨vt,e,hvt⟩:=hte
  exact ⟨h0,C,vt,e,hvt,lY hk hv,fun w=>by rw [hk.run];unfold Cn7.comS;rw [Ns];exact Ns _⟩
theorem apaA_ok {v v2 va:Value} {C:Tr} (ht:Mp G v Gk) (hu:Mp G v2 C) (hC:Cn7.TrOk C) (hr:∀ w,Bo C 0 w=some (dbl2 w)) (hab:Bd G va [97,98]) (hT:Tab G) :
    Ba prog 27 [v,v2,.agg #[va,Vi 2]] G [] fun r _ H'=>H'=[]∧∃ A c,r=.tuple #[.slice A 0 c,Vt,Vi 0]:=(Xx (mo:=2) ht hu Lg hC hab hT).mono fun r G' H' _ h=>by
  obtain ⟨h0,w,e,hw⟩:=h
  have h1:To Gk C [97,98] 2=some []:=by
    unfold To
    rw [if_pos dC]
    unfold Gi
    rw [show Hw [97,98] (2:Int).toNat=[]::(Hw [97,98] 2).tail from by rfl,List.find?_cons_of_pos]
    unfold Ip;rw [hr,Ns];decide
  rw [h1,show Ww [97,98] 2=0 from by decide] at e
  rw [h1] at hw
  obtain ⟨A,c,rfl,_⟩:=id hw
  exact ⟨h0,A,c,e⟩
theorem apaB_ok {v v2 va:Value} (ht:Mp G v Gk) (hu:Mp G v2 Gk) (hab:Bd G va [97,98]) (hT:Tab G) :
    Ba prog 27 [v,v2,.agg #[va,Vi 2]] G [] fun r _ H'=>H'=[]∧∃ A c,r=.tuple #[.slice A 0 c,Vf,Vi 0]:=(Xx (mo:=2) ht hu Lg Lg hab hT).mono fun r G' H' _ h=>by
  obtain ⟨h0,w,e,hw⟩:=h
  have h1:To Gk Gk [97,98] 2=none:=by
    unfold To;split
    · exact Cn7.apart_self
    · rfl
  rw [h1,show Ww [97,98] 2=0 from by decide] at e
  rw [h1] at hw
  obtain ⟨A,c,rfl,_⟩:=id hw
  exact ⟨h0,A,c,e⟩
theorem apaC_ok {v v2 va:Value} (ht:Mp G v Gk) (hu:Mp G v2 Gk) (hab:Bd G va [97,98,99,100]) (hT:Tab G) :
    Ba prog 27 [v,v2,.agg #[va,Vi 6]] G [] fun r _ H'=>H'=[]∧∃ A c,r=.tuple #[.slice A 0 c,Vf,Vi 2]:=(Xx (mo:=6) ht hu Lg Lg hab hT).mono fun r G' H' _ h=>by
  obtain ⟨h0,w,e,hw⟩:=h
  have h2:Ww [97,98,99,100] 6=2:=by
    rw [Xw dC dC dC dC dC]
    show (if 4096<(Mf [97,98,99,100] 7).length then (2:Int) else 0)=2
    rw [Fg,Fg,Fg,Fg,Fg,Fg,Fg];rfl
  have h1:To Gk Gk [97,98,99,100] 6=none:=Rk (by rw [h2];decide)
  rw [h1,h2] at e
  rw [h1] at hw
  obtain ⟨A,c,rfl,_⟩:=id hw
  exact ⟨h0,A,c,e⟩
theorem dbl2_a:dbl2 [97]=[98,98,33,33]:=by decide
theorem run_ca2:Bo Gk 0 [99,97]=some [99,98,98,33]:=run_ca
theorem lZ:∀ w,(Bo Gk 0 w).isSome=true:=fun w=>by rw [Ns];rfl
theorem valZ_ok :
    Ba prog 29 [.agg #[Vn,Vn,Vn,Vn]] G [] fun r _ H'=>H'=[]∧r=Vf:=(Ls (t:=⟨[],[],[],[]⟩) ⟨_,_,_,_,rfl,Bi.nil,Bi.nil,Sl.nil _ _,⟨[],Sl.nil _ _,trivial⟩⟩).mono fun r G' H' _ h=>⟨h.1,h.2.trans (by rw [zeroV])⟩
theorem valD_ok {v:Value} (ht:Mp G v Gk) :
    Ba prog 29 [v] G [] fun r _ H'=>H'=[]∧r=Vt:=(Ls ht).mono fun r G' H' _ h=>⟨h.1,h.2.trans (by rw [dblV])⟩
theorem PL49:places prog 49=some [(0,1),(1,1)]:=by kernel_rfl
theorem Fy {v:Value} {t:Tr} (h:Mp G v t):∃ a1 c1 a2 c2 a3 c3 a4 c4,v=.agg #[.slice a1 t.cls.length c1,.slice a2 t.moves.length c2,.slice a3 t.final.length c3,.slice a4 t.ends.length c4]∧Hl G (.slice a1 t.cls.length c1) t.cls∧MM G (.slice a2 t.moves.length c2) t.moves∧Dt G (.slice a3 t.final.length c3) t.final∧Es G (.slice a4 t.ends.length c4) t.ends:=by
  obtain ⟨v1,v2,v3,v4,rfl,hTc,hTm,hTf,hTe⟩:=h
  obtain ⟨A1,c1,rfl⟩:=hTc.slice
  obtain ⟨A2,c2,rfl⟩:=hTm.slice
  obtain ⟨A3,c3,rfl,_⟩:=id hTf
  obtain ⟨A4,c4,rfl⟩:=Eg hTe
  exact ⟨_,_,_,_,_,_,_,_,rfl,hTc,hTm,hTf,hTe⟩
theorem Ms {v v2:Value} {d1 d2:Cy} (hd1:Hm G v d1) (hd2:Hm G v2 d2) (hk1:SmOk d1) (he:lS d1 d2=true) :
    Ba prog 24 [v,v2] G [] fun r _ H'=>H'=[]∧r=Vt:=(same7_ok hd1 hd2 hk1).mono fun r G' H' _ h=>⟨h.1,h.2.trans (by rw [he])⟩
theorem Qc (hT:Tab G) :
  Ba prog 12 [] G [] fun r _ H'=>H'=[]∧r=Vt:=by
 refine Ba.of_T [] func12 rfl ntmps12 sM rfl fun w0 hs=>?_
 have hT0:=hT
 refine Wt 6 [0] hs rfl<|O_s (Sp (dbl7_ok hT) hs rfl fun v1 G' _ hv1 hG33 hs=>?_)
 obtain ⟨X1a,x1a,X1b,x1b,X1c,x1c,X1d,x1d,rfl,hX1a,hX1b,hX1c,hX1d⟩:=Fy hv1
 refine O_s (Sa hs zeroValue33 rfl fun b1 _ hs=>O_n (Sg hs rfl (rfl) fun _ hs=>Wp 4 [0,0] hs rfl<|O_s (Se hs zeroValue5 rfl fun v2 _ hs shv2=>O_s (Jr hs shv2 rfl underlying22 underlying5 noM fun _ _ hG37 hl37 hs=>?_))))
 replace hT:=hT.mono (hG33.trans hG37)
 replace hX1a:=hX1a.mono hG37
 replace hX1b:=hX1b.mono hG37
 replace hX1c:=hX1c.mono hG37
 replace hX1d:=hX1d.mono hG37
 refine O_s (Sp (run_t ⟨_,_,_,_,rfl,hX1a,hX1b,hX1c,hX1d⟩ Lg (show Bd _ _ [99,97] from hl37) hT dC run_ca2) hs rfl fun v3 G' _ hR hG38 hs=>?_)
 obtain ⟨A38,c38,rfl,hb38⟩:=hR
 refine Wp 9 [0,0] hs rfl ?_
 replace hT:=hT.mono hG38
 replace hX1a:=hX1a.mono hG38
 replace hX1b:=hX1b.mono hG38
 replace hX1c:=hX1c.mono hG38
 replace hX1d:=hX1d.mono hG38
 refine O_s (Sp (dom_t ⟨_,_,_,_,rfl,hX1a,hX1b,hX1c,hX1d⟩ Lg hT dC) hs rfl fun v4 G' _ hR hG43 hs=>?_)
 obtain ⟨R4,hde4,hok4,hlm4⟩:=hR
 have hv4:=hde4.vals
 rw [hok4] at hv4
 obtain ⟨D4a,d4a,D4b,d4b,D4c,d4c,rfl,hD4a,hD4b,hD4c⟩:=hv4
 clear hde4
 refine Wp 3 [] hs rfl<|O_s (Sa hs zeroValue37 rfl fun b4 _ hs=>O_n (Sg hs rfl (rfl) fun _ hs=>Wp 5 [5,1,2,3,4,5,0] hs rfl ?_))
 replace hT:=hT.mono hG43
 refine O_s (Sp (Tz ⟨_,_,_,rfl,hD4a,hD4b,hD4c⟩ (Bf hlm4 hok4).1 (Bf hlm4 hok4).2.1 hT) hs rfl fun v5 G' _ hR hG48 hs=>?_)
 obtain ⟨A48,c48,wd,ok,rfl,hb48,hi48,hl48⟩:=hR
 obtain rfl:ok=true:=hi48.2 ⟨[],by rw [(Bf hlm4 hok4).2.2.2];exact lZ []⟩
 clear hi48 hb48
 refine Wp 8 [0] hs rfl<|O_s (Se hs zeroValue5 rfl fun v6 _ hs shv6=>O_s (Jr hs shv6 rfl underlying22 underlying5 noM fun _ _ hG53 hl53 hs =>O_s (Sp (Ro (show Bd _ _ [98,98,33] from hl53) dC) hs rfl fun v7 G' _ hR hG54 hs=>?_)))
 obtain ⟨R8,hde8,hok8,hlm8,_⟩:=hR
 have hv8:=hde8.vals
 rw [hok8] at hv8
 obtain ⟨D8a,d8a,D8b,d8b,D8c,d8c,rfl,hD8a,hD8b,hD8c⟩:=hv8
 clear hde8
 refine Wp 3 [] hs rfl<|O_s (Sa hs zeroValue37 rfl fun b8 _ hs=>O_n (Sg hs rfl (rfl) fun _ hs=>Wp 6 [0,2,0] hs rfl ?_))
 have hGz:=hG43.trans (hG48.trans (hG53.trans hG54))
 replace hX1a:=hX1a.mono hGz
 replace hX1b:=hX1b.mono hGz
 replace hX1c:=hX1c.mono hGz
 replace hX1d:=hX1d.mono hGz
 replace hT:=hT.mono (hG48.trans (hG53.trans hG54))
 refine O_s (Sp (preB_ok ⟨_,_,_,_,rfl,hX1a,hX1b,hX1c,hX1d⟩ ⟨_,_,_,rfl,hD8a,hD8b,hD8c⟩ hlm8 hT) hs rfl fun v8 G' _ hde10 hG60 hs=>?_)
 have hv10:=hde10.vals
 obtain ⟨D10a,d10a,D10b,d10b,D10c,d10c,rfl,hD10a,hD10b,hD10c⟩:=hv10
 clear hde10
 refine Wp 3 [] hs rfl<|O_s (Sa hs zeroValue37 rfl fun b10 _ hs=>O_n (Sg hs rfl (rfl) fun _ hs=>Wp 4 [9,1,2,3,4,5,7,8,10,11] hs rfl<|O_s (Se hs zeroValue5 rfl fun v9 _ hs shv9=>O_s (Jr hs shv9 rfl underlying22 underlying5 noM fun _ _ hG65 hl65 hs =>O_s (Sp (Ro (show Bd _ _ [97] from hl65) dC) hs rfl fun v10 G' _ hR hG66 hs=>?_)))))
 obtain ⟨R12,hde12,hok12,hlm12,_⟩:=hR
 have hv12:=hde12.vals
 rw [hok12] at hv12
 obtain ⟨D12a,d12a,D12b,d12b,D12c,d12c,rfl,hD12a,hD12b,hD12c⟩:=hv12
 clear hde12
 refine Wp 3 [] hs rfl<|O_s (Sa hs zeroValue37 rfl fun b12 _ hs=>O_n (Sg hs rfl (rfl) fun _ hs=>Wp 4 [0] hs rfl<|O_s (Se hs zeroValue5 rfl fun v11 _ hs shv11=>O_s (Jr hs shv11 rfl underlying22 underlying5 noM fun _ _ hG71 hl71 hs =>O_s (Sp (Ro (show Bd _ _ [98,98] from hl71) dC) hs rfl fun v12 G' _ hR hG72 hs=>?_)))))
 obtain ⟨R14,hde14,hok14,hlm14,_⟩:=hR
 have hv14:=hde14.vals
 rw [hok14] at hv14
 obtain ⟨D14a,d14a,D14b,d14b,D14c,d14c,rfl,hD14a,hD14b,hD14c⟩:=hv14
 clear hde14
 refine Wp 3 [] hs rfl<|O_s (Sa hs zeroValue37 rfl fun b14 _ hs=>O_n (Sg hs rfl (rfl) fun _ hs=>Wp 6 [11,1,2,3,4,5,7,8,10,11,12,14,1,0] hs rfl ?_))
 replace hT:=hT.mono (hG60.trans (hG65.trans (hG66.trans (hG71.trans hG72))))
 have hGz:=hG71.trans hG72
 replace hD12a:=hD12a.mono hGz
 replace hD12b:=hD12b.mono hGz
 replace hD12c:=hD12c.mono hGz
 refine O_s (Sp (orE_ok ⟨_,_,_,rfl,hD12a,hD12b,hD12c⟩ ⟨_,_,_,rfl,hD14a,hD14b,hD14c⟩ hlm12 hlm14 hok12 hok14 hT) hs rfl fun v13 G' _ hde16 hG78 hs=>?_)
 have hv16:=hde16.vals
 obtain ⟨D16a,d16a,D16b,d16b,D16c,d16c,rfl,hD16a,hD16b,hD16c⟩:=hv16
 clear hde16
 refine Wp 3 [] hs rfl<|O_s (Sa hs zeroValue37 rfl fun b16 _ hs=>O_n (Sg hs rfl (rfl) fun _ hs=>Wp 6 [0,6,0] hs rfl ?_))
 have hGz:=hG60.trans (hG65.trans (hG66.trans (hG71.trans (hG72.trans hG78))))
 replace hX1a:=hX1a.mono hGz
 replace hX1b:=hX1b.mono hGz
 replace hX1c:=hX1c.mono hGz
 replace hX1d:=hX1d.mono hGz
 replace hT:=hT.mono hG78
 refine O_s (Sp (imgE_ok ⟨_,_,_,_,rfl,hX1a,hX1b,hX1c,hX1d⟩ ⟨_,_,_,rfl,hD16a,hD16b,hD16c⟩ hT) hs rfl fun v14 G' _ hde18 hG84 hs=>?_)
 have hv18:=hde18.vals
 obtain ⟨D18a,d18a,D18b,d18b,D18c,d18c,rfl,hD18a,hD18b,hD18c⟩:=hv18
 clear hde18
 refine Wp 3 [] hs rfl<|O_s (Sa hs zeroValue37 rfl fun b18 _ hs=>O_n (Sg hs rfl (rfl) fun _ hs=>Wp 6 [12,1,2,3,4,5,7,8,10,11,16,18,19,7,7] hs rfl ?_))
 replace hT:=hT.mono hG84
 replace hX1a:=hX1a.mono hG84
 replace hX1b:=hX1b.mono hG84
 replace hX1c:=hX1c.mono hG84
 replace hX1d:=hX1d.mono hG84
 refine O_s (Sp (comE_ok ⟨_,_,_,_,rfl,hX1a,hX1b,hX1c,hX1d⟩ ⟨_,_,_,_,rfl,hX1a,hX1b,hX1c,hX1d⟩ hT) hs rfl fun v15 G' _ hR hG90 hs=>?_)
 obtain ⟨C,vt,rfl,hv20,hCk,hCr⟩:=hR
 obtain ⟨X20a,x20a,X20b,x20b,X20c,x20c,X20d,x20d,rfl,hX20a,hX20b,hX20c,hX20d⟩:=Fy hv20
 refine Wp 3 [] hs rfl<|O_s (Sa hs zeroValue33 rfl fun b20 _ hs=>O_n (Sg hs rfl (rfl) fun _ hs=>Wp 5 [0,0] hs rfl<|O_s (Se hs zeroValue5 rfl fun v16 _ hs shv16=>O_s (Jr hs shv16 rfl underlying22 underlying5 noM fun _ _ hG96 hl96 hs=>?_))))
 replace hT:=hT.mono (hG90.trans hG96)
 replace hX20a:=hX20a.mono hG96
 replace hX20b:=hX20b.mono hG96
 replace hX20c:=hX20c.mono hG96
 replace hX20d:=hX20d.mono hG96
 refine O_s (Sp (run_t ⟨_,_,_,_,rfl,hX20a,hX20b,hX20c,hX20d⟩ hCk (show Bd _ _ [97] from hl96) hT dC ((hCr [97]).trans (congrArg some dbl2_a))) hs rfl fun v17 G' _ hR hG97 hs=>?_)
 obtain ⟨A97,c97,rfl,hb97⟩:=hR
 refine Wp 10 [16,1,2,3,4,5,7,8,10,11,16,18,19,20,21,22,23,8,0] hs rfl<|O_s (Se hs zeroValue5 rfl fun v18 _ hs shv18=>O_s (Jr hs shv18 rfl underlying22 underlying5 noM fun _ _ hG104 hl104 hs=>?_))
 have hsN:=hs
 obtain ⟨A104,c104,rfl,_⟩:=id hl104
 have hs:=hsN
 clear hsN
 refine Zy hs (Ce zeroValue49 rfl PL49 rfl (cs:=[_,_]) rfl ?_)
 have hGz:=hG90.trans (hG96.trans (hG97.trans hG104))
 replace hX1a:=hX1a.mono hGz
 replace hX1b:=hX1b.mono hGz
 replace hX1c:=hX1c.mono hGz
 replace hX1d:=hX1d.mono hGz
 have hGz:=hG97.trans hG104
 replace hT:=hT.mono hGz
 replace hX20a:=hX20a.mono hGz
 replace hX20b:=hX20b.mono hGz
 replace hX20c:=hX20c.mono hGz
 replace hX20d:=hX20d.mono hGz
 refine O_s (Sp (apaA_ok ⟨_,_,_,_,rfl,hX1a,hX1b,hX1c,hX1d⟩ ⟨_,_,_,_,rfl,hX20a,hX20b,hX20c,hX20d⟩ hCk hCr (show Bd _ _ [97,98] from hl104) hT) hs rfl fun v19 G' _ hR hG106 hs=>?_)
 obtain ⟨A106,c106,rfl⟩:=hR
 refine Wp 12 [18,1,2,3,4,5,7,8,10,11,16,18,19,21,22,23,24,25,26,8,8] hs rfl<|O_s (Se hs zeroValue5 rfl fun v20 _ hs shv20=>O_s (Jr hs shv20 rfl underlying22 underlying5 noM fun _ _ hG114 hl114 hs=>?_))
 have hsN:=hs
 obtain ⟨A114,c114,rfl,_⟩:=id hl114
 have hs:=hsN
 clear hsN
 refine Zy hs (Ce zeroValue49 rfl PL49 rfl (cs:=[_,_]) rfl ?_)
 have hGz:=hG106.trans hG114
 replace hT:=hT.mono hGz
 replace hX1a:=hX1a.mono hGz
 replace hX1b:=hX1b.mono hGz
 replace hX1c:=hX1c.mono hGz
 replace hX1d:=hX1d.mono hGz
 refine O_s (Sp (apaB_ok ⟨_,_,_,_,rfl,hX1a,hX1b,hX1c,hX1d⟩ ⟨_,_,_,_,rfl,hX1a,hX1b,hX1c,hX1d⟩ (show Bd _ _ [97,98] from hl114) hT) hs rfl fun v21 G' _ hR hG116 hs=>?_)
 obtain ⟨A116,c116,rfl⟩:=hR
 refine Wp 12 [20,1,2,3,4,5,7,8,10,11,16,18,19,21,22,23,24,25,26,28,29,8,8] hs rfl<|O_s (Se hs zeroValue5 rfl fun v22 _ hs shv22=>O_s (Jr hs shv22 rfl underlying22 underlying5 noM fun _ _ hG124 hl124 hs=>?_))
 have hsN:=hs
 obtain ⟨A124,c124,rfl,_⟩:=id hl124
 have hs:=hsN
 clear hsN
 refine Zy hs (Ce zeroValue49 rfl PL49 rfl (cs:=[_,_]) rfl ?_)
 have hGz:=hG116.trans hG124
 replace hT:=hT.mono hGz
 replace hX1a:=hX1a.mono hGz
 replace hX1b:=hX1b.mono hGz
 replace hX1c:=hX1c.mono hGz
 replace hX1d:=hX1d.mono hGz
 refine O_s (Sp (apaC_ok ⟨_,_,_,_,rfl,hX1a,hX1b,hX1c,hX1d⟩ ⟨_,_,_,_,rfl,hX1a,hX1b,hX1c,hX1d⟩ (show Bd _ _ [97,98,99,100] from hl124) hT) hs rfl fun v23 G' _ hR hG126 hs=>?_)
 obtain ⟨A126,c126,rfl⟩:=hR
 refine Wp 11 [21,1,2,3,4,5,7,8,10,11,16,18,19,21,22,23,24,25,26,28,29,32,8] hs rfl ?_
 replace hX1a:=hX1a.mono hG126
 replace hX1b:=hX1b.mono hG126
 replace hX1c:=hX1c.mono hG126
 replace hX1d:=hX1d.mono hG126
 refine O_s (Sp (valD_ok ⟨_,_,_,_,rfl,hX1a,hX1b,hX1c,hX1d⟩) hs rfl fun v24 G' _ hR hG131 hs=>?_)
 obtain rfl:=hR
 refine Wp 1 [] hs rfl<|Zg hs rfl (Ce zeroValue33 rfl PL33 rfl (cs:=[_,_,_,_]) rfl<|Dh 132 rfl rfl (Sp (valZ_ok) hs rfl fun v25 G' _ hR hG134 hs=>?_))
 obtain rfl:=hR
 refine Wp 7 [] hs rfl ?_
 replace hb38:=hb38.mono (hG43.trans (hG48.trans (hG53.trans (hG54.trans (hG60.trans (hG65.trans (hG66.trans (hG71.trans (hG72.trans (hG78.trans (hG84.trans (hG90.trans (hG96.trans (hG97.trans (hG104.trans (hG106.trans (hG114.trans (hG116.trans (hG124.trans (hG126.trans (hG131.trans hG134)))))))))))))))))))))
 refine Zg hs rfl (Kq (bs:=[99,98,98,33]) underlying22 underlying5 underlying9 rfl hb38<|Zg hs rfl (Wx (b:=true) rfl rfl ⟨fun _=>rfl,fun _=>rfl⟩<|Wp 10 [7] hs rfl<|Dh 152 rfl rfl (Se hs zeroValue5 rfl fun v26 _ hs shv26=>Dh 152 rfl rfl (Jr hs shv26 rfl underlying22 underlying5 noM fun _ _ hG155 hl155 hs=>?_))))
 have hGz:=hG48.trans (hG53.trans (hG54.trans (hG60.trans (hG65.trans (hG66.trans (hG71.trans (hG72.trans (hG78.trans (hG84.trans (hG90.trans (hG96.trans (hG97.trans (hG104.trans (hG106.trans (hG114.trans (hG116.trans (hG124.trans (hG126.trans (hG131.trans (hG134.trans hG155))))))))))))))))))))
 replace hD4a:=hD4a.mono hGz
 replace hD4b:=hD4b.mono hGz
 replace hD4c:=hD4c.mono hGz
 replace hT:=hT.mono (hG126.trans (hG131.trans (hG134.trans hG155)))
 refine Dh 152 rfl rfl (Sp (Rh ⟨_,_,_,rfl,hD4a,hD4b,hD4c⟩ (Bf hlm4 hok4).1 (Bf hlm4 hok4).2.1 (show Bd _ _ [120,121,122] from hl155) dC hT) hs rfl fun v27 G' _ hR hG156 hs=>?_)
 obtain rfl:=hR
 rw [(Bf hlm4 hok4).2.2.2,lZ]
 refine Wp 8 [5,2] hs rfl ?_
 have hGz:=hG65.trans (hG66.trans (hG71.trans (hG72.trans (hG78.trans (hG84.trans (hG90.trans (hG96.trans (hG97.trans (hG104.trans (hG106.trans (hG114.trans (hG116.trans (hG124.trans (hG126.trans (hG131.trans (hG134.trans (hG155.trans hG156)))))))))))))))))
 replace hD10a:=hD10a.mono hGz
 replace hD10b:=hD10b.mono hGz
 replace hD10c:=hD10c.mono hGz
 have hGz:=hG84.trans (hG90.trans (hG96.trans (hG97.trans (hG104.trans (hG106.trans (hG114.trans (hG116.trans (hG124.trans (hG126.trans (hG131.trans (hG134.trans (hG155.trans hG156))))))))))))
 replace hD16a:=hD16a.mono hGz
 replace hD16b:=hD16b.mono hGz
 replace hD16c:=hD16c.mono hGz
 refine Dh 162 rfl rfl (Sp (Ms ⟨_,_,_,rfl,hD10a,hD10b,hD10c⟩ ⟨_,_,_,rfl,hD16a,hD16b,hD16c⟩ (smOk dokE) (Ga.2 rfl)) hs rfl fun v28 G' _ hR hG165 hs=>?_)
 obtain rfl:=hR
 refine Wp 8 [1,6] hs rfl ?_
 have hGz:=hG60.trans (hG65.trans (hG66.trans (hG71.trans (hG72.trans (hG78.trans (hG84.trans (hG90.trans (hG96.trans (hG97.trans (hG104.trans (hG106.trans (hG114.trans (hG116.trans (hG124.trans (hG126.trans (hG131.trans (hG134.trans (hG155.trans (hG156.trans hG165)))))))))))))))))))
 replace hD8a:=hD8a.mono hGz
 replace hD8b:=hD8b.mono hGz
 replace hD8c:=hD8c.mono hGz
 have hGz:=hG90.trans (hG96.trans (hG97.trans (hG104.trans (hG106.trans (hG114.trans (hG116.trans (hG124.trans (hG126.trans (hG131.trans (hG134.trans (hG155.trans (hG156.trans hG165))))))))))))
 replace hD18a:=hD18a.mono hGz
 replace hD18b:=hD18b.mono hGz
 replace hD18c:=hD18c.mono hGz
 refine Dh 171 rfl rfl (Sp (Ms ⟨_,_,_,rfl,hD18a,hD18b,hD18c⟩ ⟨_,_,_,rfl,hD8a,hD8b,hD8c⟩ (smOk dokB) (by rw [hlm8.unique limB fun _=>rfl];exact Ga.2 rfl)) hs rfl fun v29 G' _ hR hG174 hs=>?_)
 obtain rfl:=hR
 refine Wp 10 [] hs rfl ?_
 replace hb97:=hb97.mono (hG104.trans (hG106.trans (hG114.trans (hG116.trans (hG124.trans (hG126.trans (hG131.trans (hG134.trans (hG155.trans (hG156.trans (hG165.trans hG174)))))))))))
 refine Zg hs rfl (Kq (bs:=[98,98,33,33]) underlying22 underlying5 underlying9 rfl hb97<|Zg hs rfl (Wx (b:=true) rfl rfl ⟨fun _=>rfl,fun _=>rfl⟩<|Wp 27 [1,0] hs rfl<|As<|Zz results12 rfl ?_))
 exact hs.q rfl
theorem not_t {v:Value} {d:Cy} (hd:Hm G v d) (hk:Cn7.DOk d) (h64:d.next.length≤64) (hT:Tab G) :
    Ba prog 34 [v] G [] fun r G' H'=>H'=[]∧∃ R,DE G' r R∧Rp R=0∧Cn7.LimOf (fun u=>!(Cn7.lb (Av d) 0 u)) R:=(rS hd hk h64 hT).mono fun r G' H' _ h=>by
  obtain ⟨h0,D,vd,e,hd,hc,hn,hl⟩:=h
  exact ⟨h0,some D,⟨vd,e,hd⟩,rfl,Ty hc (Aai hn h64) hl⟩
theorem or_t {v1 v2:Value} {d1 d2:Cy} (hd1:Hm G v1 d1) (hd2:Hm G v2 d2) (hk1:Cn7.DOk d1) (hk2:Cn7.DOk d2) (h641:d1.next.length≤64) (h642:d2.next.length≤64) (hT:Tab G) :
    Ba prog 35 [v1,v2] G [] fun r G' H'=>H'=[]∧∃ R,DE G' r R∧(d1.next.length*d2.next.length≤64→Rp R=0)∧Cn7.LimOf (fun u=>((Cn7.lb (Av d1) 0 u) || (Cn7.lb (Av d2) 0 u))) R:=(zI hd1 hd2 hk1 hk2 h641 h642 hT).mono fun r G' H' _ h=>by
  obtain ⟨h0,R,hl,hn,hde⟩:=h
  exact ⟨h0,R,hde,fun h=>cJ (hn h),hl⟩
theorem and_t {v1 v2:Value} {d1 d2:Cy} (hd1:Hm G v1 d1) (hd2:Hm G v2 d2) (hk1:Cn7.DOk d1) (hk2:Cn7.DOk d2) (h641:d1.next.length≤64) (h642:d2.next.length≤64) (hT:Tab G) :
    Ba prog 38 [v1,v2] G [] fun r G' H'=>H'=[]∧∃ R,DE G' r R∧(d1.next.length*d2.next.length≤64→Rp R=0)∧Cn7.LimOf (fun u=>((Cn7.lb (Av d1) 0 u) && (Cn7.lb (Av d2) 0 u))) R:=(and7_ok hd1 hd2 hk1 hk2 h641 h642 hT).mono fun r G' H' _ h=>by
  obtain ⟨h0,R,hl,hn,hde⟩:=h
  exact ⟨h0,R,hde,fun h=>cJ (hn h),hl⟩
theorem tB {v1 v2:Value} {d1 d2:Cy} (hd1:Hm G v1 d1) (hd2:Hm G v2 d2) (hk1:Cn7.DOk d1) (hk2:Cn7.DOk d2) (h641:d1.next.length≤64) (h642:d2.next.length≤64) (hT:Tab G) :
    Ba prog 40 [v1,v2] G [] fun r G' H'=>H'=[]∧∃ R,DE G' r R∧(d1.next.length*d2.next.length≤64→Rp R=0)∧Cn7.LimOf (fun u=>((Cn7.lb (Av d1) 0 u) && !(Cn7.lb (Av d2) 0 u))) R:=(min7_ok hd1 hd2 hk1 hk2 h641 h642 hT).mono fun r G' H' _ h=>by
  obtain ⟨h0,R,hl,hn,hde⟩:=h
  exact ⟨h0,R,hde,fun h=>cJ (hn h),hl⟩
theorem Mt {a b:Bool} (hu:x.P.underlying xt=some .bool) (h1:ev E o=some (.bool a)) (h2:ev E p=some (.bool b)) (hab:a=b) (k:K (Vt)):Y x W ⟨d,.binOp .eql xt o p yt,ty,pos,aft,g⟩ E K :=
  tG hu h1 h2 (fun _=>k) (fun h=>absurd hab h)
theorem Qd {a b:Bool} (hu:x.P.underlying xt=some .bool) (h1:ev E o=some (.bool a)) (h2:ev E p=some (.bool b)) (hab:a=b) (k:K (Vf)):Y x W ⟨d,.binOp .neq xt o p yt,ty,pos,aft,g⟩ E K :=
  Kk hu h1 h2 (fun h=>absurd hab h) (fun _=>k)
def allD7:Cy:=⟨Gg [],[[0]],[true]⟩
theorem all_can:∃ D,kX true D:=by
  have h:=bP
  have hk:Cn7.DOk allD7:=⟨h.n1,h.n2,rfl,h.k2,h.c4,h.ne,h.un,h.cv,h.row⟩
  obtain ⟨D,_,h2,h3,h4⟩:=Cn7.canon_ok (Cn7.tab_ok hk)
  refine ⟨D,h2,h3,fun u=>?_⟩
  have h5:Cn7.aft (Av allD7) 0 u<1:=Cn7.aft_lt (Cn7.tab_ok hk) u (by exact Nat.one_pos)
  rw [h4,Cn7.lb_end,show Cn7.aft (Av allD7) 0 u=0 by omega];rfl
theorem all_one {L:List UInt8→Bool} {R:Option Cy} (h:Cn7.LimOf L R) (hl:∀ w,L w=true):Rp R=0∧(rD R).next.length≤1∧∀ w,Cn7.lb (Av (rD R)) 0 w=true:=by
  obtain ⟨A,hA⟩:=all_can
  obtain rfl:R=some A:=h.unique (Ty hA.1 (Aai hA.2.1 dC) hA.2.2) hl
  exact ⟨rfl,hA.2.1,hA.2.2⟩
theorem vU {t:Tr} {d:Cy} (h:∀ o,Cn7.lb (Av d) 0 o=true) (w:List UInt8):(Bo t 0 w).isSome=Iq t d w:=by
  unfold Iq;cases Bo t 0 w with
  | none=>rfl
  | some o=>exact (h o).symm
theorem ors_all (w:List UInt8) {a b:Bool} (ha:a=decide (w=[])) (hb:b=!decide (w=[])):(a || b)=true:=by rw [ha,hb];cases decide (w=[])<;>rfl
def nilT7:Tr:=⟨[],[],[],[]⟩
def okT (R:Option Tr):Int:=if R.isSome then 0 else 2
def rT (R:Option Tr):Tr:=R.getD nilT7
theorem okT_no {R:Option Tr} (h:¬ okT R=0):okT R=2:=by
  unfold okT at h ⊢;split
  · rename_i h2;rw [if_pos h2] at h;exact absurd rfl h
  · rfl
theorem TE.vals {r:Value} {R:Option Tr} (h:TE G r R):∃ a1 c1 a2 c2 a3 c3 a4 c4,r=.tuple #[.agg #[.slice a1 (rT R).cls.length c1,.slice a2 (rT R).moves.length c2,.slice a3 (rT R).final.length c3,.slice a4 (rT R).ends.length c4],Vi (okT R)]∧Hl G (.slice a1 (rT R).cls.length c1) (rT R).cls∧MM G (.slice a2 (rT R).moves.length c2) (rT R).moves∧Dt G (.slice a3 (rT R).final.length c3) (rT R).final∧Es G (.slice a4 (rT R).ends.length c4) (rT R).ends:=by
  cases R with
  | none=>exact ⟨_,_,_,_,_,_,_,_,h,Bi.nil,Bi.nil,Sl.nil _ _,[],Sl.nil _ _,trivial⟩
  | some C =>
    obtain ⟨vt,e,h⟩:=h
    obtain ⟨a1,c1,a2,c2,a3,c3,a4,c4,rfl,h1,h2,h3,h4⟩:=Fy h
    exact ⟨_,_,_,_,_,_,_,_,e,h1,h2,h3,h4⟩
theorem mA {v v2:Value} {t u:Tr} (ht:Mp G v t) (hu:Mp G v2 u) (htok:Cn7.TrOk t) (hutok:Cn7.TrOk u) (hT:Tab G) :
    Ba prog 25 [v,v2] G [] fun r G' H'=>H'=[]∧∃ R,TE G' r R∧(okT R=0→Cn7.TrOk (rT R)∧∀ w,Bo (rT R) 0 w=(Bo t 0 w).bind (Bo u 0)):=(sF ht hu htok hutok hT).mono fun r G' H' _ h=>by
  obtain ⟨h0,C,hC,hte⟩:=h
  obtain ⟨C',hC',hk⟩:=Cn7.com_ok htok hutok
  rw [hC] at hC';injection hC' with hC';subst hC'
  refine ⟨h0,_,hte,fun h=>?_⟩
  by_cases hv:Gh C=true
  · rw [if_pos hv]
    exact ⟨lY hk hv,fun w=>by show Bo C 0 w=_;rw [hk.run];unfold Cn7.comS;cases Bo t 0 w<;>rfl⟩
  · rw [if_neg hv] at h;exact absurd h dC
theorem img_t {v w2:Value} {t:Tr} {d:Cy} (ht:Mp G v t) (hd:Hm G w2 d) (htok:Cn7.TrOk t) (hk:Cn7.DOk d) (h64:d.next.length≤64) (hT:Tab G) :
    Ba prog 21 [v,w2] G [] fun r G' H'=>H'=[]∧∃ R,DE G' r R∧(Rp R=0→Cn7.DOk (rD R)∧(rD R).next.length≤64∧∀ w,Cn7.lb (Av (rD R)) 0 w=true↔Cn7.Out t (Av d) (0,0) w):=(sT ht hd htok hk h64 hT).mono fun r G' H' _ h=>by
  obtain ⟨h0,R,hR,hde⟩:=h
  obtain ⟨R',hR',h2⟩:=Cn7.img_ok htok hk h64
  rw [hR] at hR';injection hR' with hR';subst hR'
  refine ⟨h0,R,hde,fun h=>?_⟩
  obtain ⟨h3,h4,h5⟩:=h2 _ (lX h)
  exact ⟨h3.ok,h4,h5⟩
theorem pre_e {v w2:Value} {t:Tr} {L:List UInt8→Bool} {Q:Option Cy} (ht:Mp G v t) (hd:Hm G w2 (rD Q)) (htok:Cn7.TrOk t) (hQ:Cn7.LimOf L Q) (hT:Tab G) :
    Ba prog 19 [v,w2] G [] fun r G' H'=>H'=[]∧∃ R e a1 c1 a2 c2 a3 c3,r=.tuple #[.agg #[.slice a1 (rD R).cls.length c1,.slice a2 (rD R).next.length c2,.slice a3 (rD R).acc.length c3],Vi e]∧Hl G' (.slice a1 (rD R).cls.length c1) (rD R).cls∧LN G' (.slice a2 (rD R).next.length c2) (rD R).next∧Dt G' (.slice a3 (rD R).acc.length c3) (rD R).acc∧(e=0→Rp Q=0∧Cn7.LimOf (Iq t (rD Q)) R):=by
  by_cases h0:Rp Q=0
  · obtain ⟨k1,k2,_,k4⟩:=Bf hQ h0
    exact (Pg ht hd htok k1 k2 hT).mono fun r G' H' _ h=>by
      obtain ⟨e,R,hde,_,hl⟩:=h
      obtain ⟨a1,c1,a2,c2,a3,c3,er,q1,q2,q3⟩:=hde.vals
      exact ⟨e,R,Rp R,a1,c1,a2,c2,a3,c3,er,q1,q2,q3,fun _=>⟨h0,hl.congr fun w=>rfl⟩⟩
  · have hN:rD Q=nilD7:=by
      cases Q with
      | none=>rfl
      | some D=>exact absurd rfl h0
    rw [hN] at hd
    exact (pre7_bad ht hd htok dC).mono fun r G' H' _ h=>by
      refine ⟨h.1,none,1,_,_,_,_,_,_,h.2,Bi.nil,Bi.nil,Sl.nil _ _,fun h=>absurd h dC⟩
theorem bind_t {t u:Tr} {x:List UInt8} (h:(Bo t 0 x).isSome=true):(Bo t 0 x).bind (Bo u 0)=Bo u 0 ((Bo t 0 x).getD []):=by
  cases e:Bo t 0 x with
  | none=>rw [e] at h;cases h
  | some o=>rfl
theorem bind_f {t u:Tr} {x:List UInt8} (h:(Bo t 0 x).isSome=false):(Bo t 0 x).bind (Bo u 0)=none:=by
  cases e:Bo t 0 x with
  | none=>rfl
  | some o=>rw [e] at h;cases h
theorem Fh {t:Tr} (ht:Cn7.TrOk t) (w:List UInt8):((Bo t 0 w).getD []).length≤8*w.length+8:=by
  cases e:Bo t 0 w with
  | none=>simp
  | some o=>exact tA ht w 0 (by have:=ht.n1;omega) e
theorem langP_t {t:Tr} {d:Cy} {x:List UInt8} (h:(Bo t 0 x).isSome=true):Iq t d x=Cn7.lb (Av d) 0 ((Bo t 0 x).getD []):=by
  unfold Iq
  cases e:Bo t 0 x with
  | none=>rw [e] at h;cases h
  | some o=>rfl
theorem langP_f {t:Tr} {d:Cy} {x:List UInt8} (h:(Bo t 0 x).isSome=false):Iq t d x=false:=by
  unfold Iq
  cases e:Bo t 0 x with
  | none=>rfl
  | some o=>rw [e] at h;cases h
theorem eW {t:Tr} {d e D:Cy} (h:∀ o,Cn7.lb (Av D) 0 o=(Cn7.lb (Av d) 0 o && !Cn7.lb (Av e) 0 o)) (w:List UInt8):Iq t D w=(Iq t d w && !Iq t e w):=by
  unfold Iq
  cases Bo t 0 w with
  | none=>rfl
  | some o=>exact h o
theorem vV {t u C:Tr} {d D:Cy} (hC:∀ w,Bo C 0 w=(Bo t 0 w).bind (Bo u 0)) (hD:∀ o,Cn7.lb (Av D) 0 o=Iq u d o) (w:List UInt8):Iq C d w=Iq t D w:=by
  unfold Iq
  rw [hC]
  cases Bo t 0 w with
  | none=>rfl
  | some o=>exact (hD o).symm
theorem dec_one {x u:List UInt8}:decide (u=x)=true↔u=x:=decide_eq_true_iff
theorem Vr {t:Tr} {d E P W I:Cy} {x:List UInt8} {ok:Bool} (hW:∀ u,Cn7.lb (Av W) 0 u=decide (u=x)) (hP:∀ u,Cn7.lb (Av P) 0 u=Iq t W u) (hE:∀ u,Cn7.lb (Av E) 0 u=(Cn7.lb (Av P) 0 u && Cn7.lb (Av d) 0 u))
    (hI:∀ u,Cn7.lb (Av I) 0 u=true↔Cn7.Out t (Av d) (0,0) u) (hok:ok=true↔∃ u,Cn7.lb (Av E) 0 u=true):ok=Cn7.lb (Av I) 0 x:=by
  rw [AbG,hok,hI]
  have key:∀ u,Cn7.lb (Av E) 0 u=true↔Bo t 0 u=some x∧Cn7.lb (Av d) 0 u=true:=fun u=>by
    rw [hE,hP,Aah]
    unfold Iq
    cases Bo t 0 u with
    | none=>simp
    | some o=>dsimp only;rw [hW,dec_one,Option.some.injEq]
  exact ⟨fun ⟨u,hu⟩=>⟨u,(key u).1 hu⟩,fun ⟨u,hu⟩=>⟨u,(key u).2 hu⟩⟩
theorem tC {v v2 va:Value} {t u:Tr} (ht:Mp G v t) (hu:Mp G v2 u) (htok:Cn7.TrOk t) (hutok:Cn7.TrOk u) (hab:Bd G va [97,98,99,100]) (hT:Tab G) :
    Ba prog 27 [v,v2,.agg #[va,Vi 3]] G [] fun r G' H'=>H'=[]∧∃ A c w ok,r=.tuple #[.slice A w.length c,.bool ok,Vi 0]∧ok=(Gi t u [97,98,99,100] 3).isSome∧w=(Gi t u [97,98,99,100] 3).getD []∧Bd G' (.slice A w.length c) w:=(Xx (mo:=3) ht hu htok hutok hab hT).mono fun r G' H' _ h=>by
  obtain ⟨h0,w,e,hw⟩:=h
  have h2:Ww [97,98,99,100] 3=0:=by
    rw [Xw dC dC dC dC dC]
    show (if 4096<(Mf [97,98,99,100] 4).length then (2:Int) else 0)=0
    rw [Fg,Fg,Fg,Fg];rfl
  have h1:To t u [97,98,99,100] 3=Gi t u [97,98,99,100] 3:=by unfold To;rw [if_pos h2];rfl
  rw [h1,h2] at e
  rw [h1] at hw
  obtain ⟨A,c,rfl,_⟩:=id hw
  exact ⟨h0,A,c,_,_,e,rfl,rfl,hw⟩
theorem fix_ad (x:UInt8):jT x∈([97,98,99,100]:List UInt8):=by
  have h:∀ b,b<256→jT (UInt8.ofNat b)∈([97,98,99,100]:List UInt8):=by decide +kernel
  have:=h x.toNat x.toNat_lt
  rwa [Cn7.o8] at this
theorem oZ {w:List UInt8} {n:Nat}:∀ b∈Lb w n,b∈([97,98,99,100]:List UInt8):=fun b hb=>by
  unfold Lb at hb
  obtain ⟨y,_,rfl⟩:=Aaf.1 hb
  exact fix_ad y
theorem mB:([97,98,99,100]:List UInt8).Pairwise (·<·):=by decide
theorem diff_ne7 {t u:Tr} {x:List UInt8} (h:¬ (Bo t 0 x).isSome=(Bo u 0 x).isSome):true=Ip t u x:=by
  cases hd:Ip t u x with
  | true=>rfl
  | false =>
    simp only [Ip,decide_eq_false_iff_not,Decidable.not_not] at hd
    exact absurd (by rw [hd]) h
theorem pA {t u:Tr} {x:List UInt8} (h:(Bo t 0 x).isSome=(Bo u 0 x).isSome):(!decide ((Bo t 0 x).getD []=(Bo u 0 x).getD []))=Ip t u x:=by
  unfold Ip
  cases e1:Bo t 0 x with
  | none=>cases e2:Bo u 0 x with
    | none=>rfl
    | some o=>rw [e1,e2] at h;cases h
  | some o=>cases e2:Bo u 0 x with
    | none=>rw [e1,e2] at h;cases h
    | some o2=>simp
theorem mC {t u:Tr} {w:List UInt8} {n:Nat} {ok:Bool} (hd:Ip t u (Lb w n)=true) (hl:(Lb w n).length≤3) (hok:ok=(Gi t u [97,98,99,100] 3).isSome):ok=true:=by
  rw [hok]
  cases e:Gi t u [97,98,99,100] 3 with
  | none=>have:=Cn7.apart_none e hl oZ;rw [hd] at this;cases this
  | some o=>rfl
theorem tD {t u:Tr} {w:List UInt8} {ok:Bool} (hok:ok=(Gi t u [97,98,99,100] 3).isSome) (hw:w=(Gi t u [97,98,99,100] 3).getD []) (h:ok=true):Gi t u [97,98,99,100] 3=some w:=by
  rw [hw]
  cases e:Gi t u [97,98,99,100] 3 with
  | none=>rw [hok,e] at h;cases h
  | some o=>rfl
end Go.Proofs.YtmohebpaonkaeaaGreatDoor
