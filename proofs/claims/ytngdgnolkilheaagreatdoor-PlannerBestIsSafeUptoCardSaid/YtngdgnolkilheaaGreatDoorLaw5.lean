/- The walk of the law PlannerBestIsSafe: the call returns true, whatever its arguments read, and changes nothing. -/
import Derived.Test.YtngdgnolkilheaaGreatDoorMI
set_option maxHeartbeats 4000000
set_option maxRecDepth 10000
set_option linter.unusedVariables false
set_option linter.unusedSimpArgs false
set_option linter.unusedSectionVars false
namespace Go.Proofs.YtngdgnolkilheaaGreatDoor
open Go Go.Ex Go.RowKit Go.Proofs.Tryz
open Pl
theorem lbis_ok {G:Ghost} {sz p0 p1 p2 p3 n0 n1 n2 n3 n4:UInt8} {ed r0 r1 r2:Nat} {Aw Aq:Option Addr} {cw cq:Nat} {nw:List UInt8} {sf:List Nat} (hT:Tab G) (hnw:Cv G (.slice Aw nw.length cw) nw) (hsq:kS G (.slice Aq sf.length cq) sf) (he:ed<4294967296) (h0:r0<65536) (h1:r1<65536) (h2:r2<65536) :
  Ai prog 5 [.agg #[.int .u8 (sz.toNat:Int),.int .u8 (p0.toNat:Int),.int .u8 (p1.toNat:Int),.int .u8 (p2.toNat:Int),.int .u8 (p3.toNat:Int),.int .u8 (n0.toNat:Int),.int .u8 (n1.toNat:Int),.int .u8 (n2.toNat:Int),.int .u8 (n3.toNat:Int),.int .u8 (n4.toNat:Int),.int .u32 (ed:Int),.int .u16 (r0:Int),.int .u16 (r1:Int),.int .u16 (r2:Int),.slice Aw nw.length cw,.slice Aq sf.length cq]] G [] fun r _ H'=>H'=[]∧r=Vt:=by
 obtain ⟨f,hfe⟩:∃ z,z=Fq (Vb sz p0 p1 p2 p3 n0 n1 n2 n3 n4 ed r0 r1 r2):=⟨_,rfl⟩
 obtain ⟨nv,hnv⟩:∃ z,z=nN f nw:=⟨_,rfl⟩
 obtain ⟨s,hse⟩:∃ z,z=sfM sf f.progs.length:=⟨_,rfl⟩
 have hk:kO f nv:=by rw [hnv,hfe];exact nQ (Tt (sz:=sz) (p0:=p0) (p1:=p1) (p2:=p2) (p3:=p3) (n0:=n0) (n1:=n1) (n2:=n2) (n3:=n3) (n4:=n4) (ed:=ed) (r0:=r0) (r1:=r1) (r2:=r2) h0 h1 h2)
 have hso:gG f s:=by rw [hse];exact nO
 obtain ⟨u,hU⟩:=gM f
 have hu12:=Tv hU hk.r
 have hu6:=hk.u
 refine Ai.of_T [(0,_)] func5 rfl ntmps5 sM rfl fun w0 hs=>?_
 have hnw0:=hnw
 have hsq0:=hsq
 have hT0:=hT
 refine Wt 2 [] hs rfl<|O_s (Sb hs rfl fun b1 _ hs=>Wp 4 [0] hs rfl<|O_s (Sc (bQ hT) hs rfl fun v1 G' H' _ hR hG14 hs=>?_))
 obtain ⟨rfl,rfl⟩:=hR
 replace hs:=hs.n rfl
 replace hnw:=hnw.mono hG14
 replace hsq:=hsq.mono hG14
 replace hT:=hT.mono hG14
 refine Wp 5 [0,0] hs rfl<|O_s (Sc (gL hfe hnv hse hnw hsq he h0 h1 h2) hs rfl fun v2 G' H' _ hR hG17 hs=>?_)
 obtain ⟨rfl,Ap,An,Ae,Ar,cp,cn,ce,cr,Au,cu,vs,rfl,hf,hu,hS⟩:=hR
 replace hs:=hs.n rfl
 replace hnw:=hnw.mono hG17
 replace hsq:=hsq.mono hG17
 replace hT:=hT.mono hG17
 obtain ⟨As,cs,rfl⟩:=Bg.slice hS
 refine Wp 3 [] hs rfl<|O_s (Sa hs zeroValue45 rfl fun b4 _ hs=>O_n (Du hs sizeOf45 rfl rfl (vs:=[_,_,_,_,_]) rfl (rfl) sM (cs':=[_,_,_,_,_]) rfl fun _ hs =>Wp 6 [0,0] hs rfl<|O_s (Sc (Lf hf hu hS hk hT hso hU) hs rfl fun v3 G' H' _ hR hG23 hs=>?_)))
 obtain ⟨rfl,vo,vc,o,rfl,hbs,hoN,hcI⟩:=hR
 replace hs:=hs.n rfl
 replace hnw:=hnw.mono hG23
 replace hsq:=hsq.mono hG23
 replace hT:=hT.mono hG23
 replace hf:=hf.mono hG23
 replace hu:=hu.mono hG23
 replace hS:=hS.mono hG23
 obtain ⟨la,lb,hla,hmin,hlt⟩:=Qe hbs
 have hin:o∈Em (En f nv).length [] (En f nv):=by rw [hla];simp
 obtain ⟨hoin,hol⟩:=bK rfl hin
 obtain ⟨C,hC⟩:∃ z,z=Gq f nv s u o:=⟨_,rfl⟩
 rw [← hC] at hcI
 have hCl:C.length≤12:=by have:=(eH (f:=f) (nv:=nv) (s:=s) (u:=u) (o:=o)).length_le;rw [← hC] at this;omega
 obtain ⟨Ao,co,rfl,_⟩:=id hoN
 obtain ⟨Ac,cc,rfl,_⟩:=id hcI
 refine Wp 3 [] hs rfl<|O_s (Sa hs zeroValue35 rfl fun b6 _ hs=>O_n (Du hs sizeOf35 rfl rfl (vs:=[_,_]) rfl (rfl) sM (cs':=[_,_]) rfl fun _ hs =>Wp 7 [5,3,4,5,6,7,1,0] hs rfl<|O_s (Sc (Qa hf hu hS hoN hcI hU oM oM hk hT hso) hs rfl fun v4 G' H' _ hR hG30 hs=>?_)))
 obtain ⟨rfl,n30,e30,rfl,k0,k310,k1,kn⟩:=hR
 replace hs:=hs.n rfl
 replace hnw:=hnw.mono hG30
 replace hsq:=hsq.mono hG30
 replace hT:=hT.mono hG30
 replace hf:=hf.mono hG30
 replace hu:=hu.mono hG30
 replace hS:=hS.mono hG30
 replace hoN:=hoN.mono hG30
 replace hcI:=hcI.mono hG30
 obtain rfl:e30=0:=k0.2 ⟨by rw [hC];exact eI hU hin,fun x hx=>by rw [hC];exact hx⟩
 obtain rfl:n30=((o.length+1:Nat):Int):=kn rfl
 clear k0 k310 k1 kn
 refine Wp 18 [0,1] hs rfl<|Ci 39 rfl rfl (Sc (gK hf hu hk.g.z hk.n) hs rfl fun v5 G' H' _ hR hG42 hs=>?_)
 obtain ⟨rfl,h42⟩:=hR
 obtain ⟨A42,c42,rfl,_⟩:=id h42
 replace hs:=hs.n rfl
 replace hnw:=hnw.mono hG42
 replace hsq:=hsq.mono hG42
 replace hT:=hT.mono hG42
 replace hf:=hf.mono hG42
 replace hu:=hu.mono hG42
 replace hS:=hS.mono hG42
 replace hoN:=hoN.mono hG42
 replace hcI:=hcI.mono hG42
 refine Wp 1 [] hs rfl<|Zg hs rfl (Ya (s:=(((En f nv).length+1:Nat):Int)) rfl<|Zg hs rfl (Dk rfl rfl rfl oM<|Wp 9 [5,3,4,5,6,46,0] hs rfl ?_))
 have hs:=hs.f2.f2.f2
 obtain ⟨Gp0,hGp⟩:=hs.name
 subst hGp
 have hf_0:=hf
 have hu_0:=hu
 have hS_0:=hS
 have hoN_0:=hoN
 have hcI_0:=hcI
 refine Zl [3,4,5,6,10] (fun m E w=>∃ (i:Nat) (G2:Ghost),i≤C.length∧Pr Gp0 G2∧m=C.length-i∧E=⟨[],[(3,Vt),(4,Vp b4),(5,.slice As s.length cs),(6,Vp b6),(10,Vi (i:Int))]⟩∧St ⟨w0,G,Bl []⟩ G2 [.blk b6 35 [.slice Ao o.length co,.slice Ac C.length cc],.blk b4 45 [.slice Ap f.progs.length cp,.slice An f.nodes.length cn,.slice Ae f.edges.length ce,.slice Ar f.routes.length cr,.slice Au nv.length cu],.blk b1 32 [.int .u8 (sz.toNat:Int),.int .u8 (p0.toNat:Int),.int .u8 (p1.toNat:Int),.int .u8 (p2.toNat:Int),.int .u8 (p3.toNat:Int),.int .u8 (n0.toNat:Int),.int .u8 (n1.toNat:Int),.int .u8 (n2.toNat:Int),.int .u8 (n3.toNat:Int),.int .u8 (n4.toNat:Int),.int .u32 (ed:Int),.int .u16 (r0:Int),.int .u16 (r1:Int),.int .u16 (r2:Int),.slice Aw nw.length cw,.slice Aq sf.length cq]] w) rfl (⟨0,_,by omega,Pr.refl _,rfl,rfl,hs⟩) fun m E w hI=>?_
 obtain ⟨i,G2,hi,hlg0,rfl,rfl,hs⟩:=hI
 have hf:=hf_0.mono hlg0
 have hu:=hu_0.mono hlg0
 have hS:=hS_0.mono hlg0
 have hoN:=hoN_0.mono hlg0
 have hcI:=hcI_0.mono hlg0
 have hnw:=hnw0.mono hs.le
 have hsq:=hsq0.mono hs.le
 have hT:=hT0.mono hs.le
 refine Wt 7 [1,0] hs rfl<|Zy hs (Yc rfl (fun h51=>?_) fun h51=>?_)
 ·
  refine Wp 3 [0] hs rfl ?_
  obtain ⟨GpJ10,hGp⟩:=hs.name
  subst hGp
  have hf_J10:=hf
  have hu_J10:=hu
  have hS_J10:=hS
  have hoN_J10:=hoN
  have hcI_J10:=hcI
  have hlg0_J10:=hlg0
  have hlgJ10:=Pr.refl GpJ10
  refine Wu 2 [] hs rfl<|Uc (fun E w=>∃ (b11:Nat) (v61:Value) (G2:Ghost),Pr GpJ10 G2∧E=⟨[],[(3,Vt),(4,Vp b4),(5,.slice As s.length cs),(6,Vp b6),(10,Vi (i:Int)),(11,Vp b11)]⟩∧St ⟨w0,G,Bl []⟩ G2 [.row 3 1 v61 i ((C.take i).map (.int .i64)),.blk b11 35 [.slice Ao o.length co,v61],.blk b6 35 [.slice Ao o.length co,.slice Ac C.length cc],.blk b4 45 [.slice Ap f.progs.length cp,.slice An f.nodes.length cn,.slice Ae f.edges.length ce,.slice Ar f.routes.length cr,.slice Au nv.length cu],.blk b1 32 [.int .u8 (sz.toNat:Int),.int .u8 (p0.toNat:Int),.int .u8 (p1.toNat:Int),.int .u8 (p2.toNat:Int),.int .u8 (p3.toNat:Int),.int .u8 (n0.toNat:Int),.int .u8 (n1.toNat:Int),.int .u8 (n2.toNat:Int),.int .u8 (n3.toNat:Int),.int .u8 (n4.toNat:Int),.int .u32 (ed:Int),.int .u16 (r0:Int),.int .u16 (r1:Int),.int .u16 (r2:Int),.slice Aw nw.length cw,.slice Aq sf.length cq]] w) ?_ ?_
  ·
   refine Bc [0,1,2,3,4,5,6,7,8,9] hs kR ?_
   replace hs:=hs.drew
   refine Xr [0,1,3,4,5] [0,0,1,0] hs rfl<|Xt 6 hs rfl (Ht hcI 0 i underlying33 sizeOf3 rfl rfl ⟨_,_,rfl,rfl⟩ oM oM fun s60 hs60=>?_)
   obtain ⟨A60,c60,rfl,_⟩:=id hs60
   refine Jq 2 9 rfl rfl kR rfl rfl ?_ ?_
   ·
    have hle:=hs.le
    refine Bq hs underlying33 sizeOf3 zeroValue3 rfl rfl dC dC rfl (cs:=[]) rfl rfl fun v6 _ hs shl=>?_
    obtain ⟨bl56,rfl⟩:=shl
    have hsW:=hs.drop
    refine Ba hsW hle (Ghost.le.refl _) (List.Sublist.refl _)<|Jq 7 9 rfl rfl kR rfl rfl ?_ ?_
    ·
     have hle:=hs.le
     refine Bd hs underlying33 Js rfl dC rfl rfl (hs60) (Ja) Ii Ii fun v7 _ hs=>?_
     have hsW:=hs.drop
     refine Ba hsW hle (Ghost.le.refl _) (List.Sublist.refl _)<|Xt 8 hsW rfl (Bb zeroValue35 rfl bJ rfl (cs:=[_,v7]) (Vd rfl (hs.rowOne 0 rfl)) ?_)
     have hle:=hs.le
     refine Xo 9 rfl (Sa hs zeroValue35 rfl fun b11 _ hs=>?_)
     have hs:=hs.f1.f1
     have hsW:=hs.drop.drop
     refine Ba hsW hle (Ghost.le.refl _) (List.Sublist.refl _)<|Xn 10 rfl (Du hs sizeOf35 rfl rfl (vs:=[_,_]) rfl (by simp only [List.all_cons,List.all_nil,hs.rowOne 1 rfl];rfl) sM (cs':=[_,_]) rfl fun _ hs=>?_)
     have hs:=hs.f4.f4.f4.f3.f4
     exact Lg kR (⟨[(3,_),(4,_),(5,_),(6,_),(10,_),(11,_)],⟨rfl,rfl,rfl,rfl,rfl,rfl,trivial⟩,⟨_,_,_,hlgJ10,rfl,Bw hs Z7⟩⟩)
    have hle:=hs.le
    refine Bf hs zeroValue35 (cs:=[_,_]) rfl fun b11 _ hs=>?_
    have hs:=hs.f1.f1
    have hsW:=hs.drop.drop
    refine Ba hsW hle (Ghost.le.refl _) (List.Sublist.refl _) ?_
    have hs:=hs.f1
    have hle:=hs.le
    refine Xo 7 rfl (Bd hs underlying33 Js rfl dC rfl rfl (hs60) (Ja) Ii Ii fun v8 _ hs=>?_)
    have hs:=hs.f1.f1
    have hsW:=hs.drop.drop
    refine Ba hsW hle (Ghost.le.refl _) (List.Sublist.refl _)<|Xt 8 hsW rfl (Bb zeroValue35 rfl bJ rfl (cs:=[_,v8]) (Vd rfl (hs.rowOne 0 rfl))<|Xn 10 rfl (Du hs.f1 sizeOf35 rfl rfl (vs:=[_,_]) rfl (by simp only [List.all_cons,List.all_nil,hs.f1.rowOne 1 rfl];rfl) sM (cs':=[_,_]) rfl fun _ hs=>?_))
    have hs:=hs.f4.f4.f4.f3.f4
    exact Lg kR (⟨[(3,_),(4,_),(5,_),(6,_),(10,_),(11,_)],⟨rfl,rfl,rfl,rfl,rfl,rfl,trivial⟩,⟨_,_,_,hlgJ10,rfl,Bw hs Z7⟩⟩)
   have hle:=hs.le
   refine Bf hs zeroValue35 (cs:=[_,_]) rfl fun b11 _ hs=>?_
   have hsW:=hs.drop
   refine Ba hsW hle (Ghost.le.refl _) (List.Sublist.refl _) ?_
   have hle:=hs.le
   refine Xo 2 rfl (Bq hs underlying33 sizeOf3 zeroValue3 rfl rfl dC dC rfl (cs:=[]) rfl rfl fun v9 _ hs shl=>?_)
   obtain ⟨bl56,rfl⟩:=shl
   have hs:=hs.f1.f1
   have hsW:=hs.drop.drop
   refine Ba hsW hle (Ghost.le.refl _) (List.Sublist.refl _) ?_
   have hle:=hs.le
   refine Xo 7 rfl (Bd hs underlying33 Js rfl dC rfl rfl (hs60) (Ja) Ii Ii fun v10 _ hs=>?_)
   have hs:=hs.f1.f1
   have hsW:=hs.drop.drop
   refine Ba hsW hle (Ghost.le.refl _) (List.Sublist.refl _)<|Xt 8 hsW rfl (Bb zeroValue35 rfl bJ rfl (cs:=[_,v10]) (Vd rfl (hs.rowOne 0 rfl))<|Xn 10 rfl (Du hs.f1 sizeOf35 rfl rfl (vs:=[_,_]) rfl (by simp only [List.all_cons,List.all_nil,hs.f1.rowOne 1 rfl];rfl) sM (cs':=[_,_]) rfl fun _ hs=>?_))
   have hs:=hs.f4.f4.f4.f3.f4
   exact Lg kR (⟨[(3,_),(4,_),(5,_),(6,_),(10,_),(11,_)],⟨rfl,rfl,rfl,rfl,rfl,rfl,trivial⟩,⟨_,_,_,hlgJ10,rfl,Bw hs Z7⟩⟩)
  clear hs
  intro E w hI
  obtain ⟨b11,v61,G2,hlgJ10,rfl,hs⟩:=hI
  have hnw:=hnw0.mono hs.le
  have hsq:=hsq0.mono hs.le
  have hT:=hT0.mono hs.le
  have hf:=hf_J10.mono hlgJ10
  have hu:=hu_J10.mono hlgJ10
  have hS:=hS_J10.mono hlgJ10
  have hoN:=hoN_J10.mono hlgJ10
  have hcI:=hcI_J10.mono hlgJ10
  have hlg0:=hlg0_J10.mono hlgJ10
  refine Wt 1 [] hs rfl<|Bc [0,1,2,3,4,5,6] hs kR ?_
  replace hs:=hs.drew
  refine Xr [0,1,2,3,4] [1,1,1,2] hs rfl<|Xt 5 hs rfl (Ya (s:=((i+1):Int)) rfl<|Xt 6 hs rfl (Ht hcI (i+1) C.length underlying33 sizeOf3 rfl ⟨_,_,rfl,rfl⟩ (by simp [bnd]) oM sM fun s69 hs69=>?_))
  obtain ⟨A69,c69,rfl,_⟩:=id hs69
  refine Xa 7 rfl (Bd hs underlying33 Js rfl dC rfl rfl (hs69) (Ja) Ii Ii fun v11 _ hs =>Xa 8 rfl (S_y hs rfl (Yf 1 rfl<|Xn 9 rfl (Sd hs.f1 rfl (hs.f1.rowOne 1 rfl) fun _ hs=>Xe (Zk [3,4,5,6,10,11] rfl ?_)))))
  have hs:=hs.f1
  have hsN:=hs.fixRow noM
  clear hs
  obtain ⟨_,hG_hqr,hqr,hs⟩:=hsN
  replace hT:=hT.mono hG_hqr
  replace hf:=hf.mono hG_hqr
  replace hu:=hu.mono hG_hqr
  replace hS:=hS.mono hG_hqr
  replace hoN:=hoN.mono hG_hqr
  replace hlg0:=hlg0.mono hG_hqr
  obtain ⟨q,hq⟩:∃ z,z=C.take i++C.drop (i+1):=⟨_,rfl⟩
  have hqI:Bv _ _ q:=Nc hqr (by rw [hq];simp;omega) (by rw [hq,List.map_append,show (C.drop (i+1)).take (C.length-(i+1))=C.drop (i+1) from List.take_of_length_le sM])
  clear hqr
  obtain ⟨Aqq,cqq,rfl,_⟩:=id hqI
  have hql:q.length≤12:=by rw [hq];simp;omega
  refine Wu 5 [2,0] hs rfl<|O_s (Sc (Qa hf hu hS hoN hqI hU oM oM hk hT hso) hs rfl fun v12 G' H' _ hR hG76 hs=>?_)
  obtain ⟨rfl,n76,e76,rfl,k0,k310,k1,kn⟩:=hR
  replace hs:=hs.n rfl
  replace hlg0:=hlg0.mono hG76
  obtain rfl:e76=310:=k310.2 (less_one hU hin hC oM hq)
  clear k0 k310 k1 kn
  refine Wp 13 [0,0] hs rfl<|Wu 2 [] hs rfl<|Zy hs (Ya (s:=((i+1:Nat):Int)) rfl<|Wp 1 [] hs rfl ?_)
  have hs:=hs.f3.f3.f3
  refine Zx [3,4,5,6,10] rfl ⟨i+1,_,by omega,hlg0,rfl,rfl,hs.weak hs.le (Ghost.le.refl _) (List.sublist_append_left [_,_,_] _)⟩
 refine Wp 3 [0] hs rfl<|Wu 5 [0] hs rfl<|Ah<|Zz results5 rfl ?_
 exact ⟨_,[],hs.done,rfl,rfl⟩
end Go.Proofs.YtngdgnolkilheaaGreatDoor
