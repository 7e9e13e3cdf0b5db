/- Part 9 of the walk through the functions that the laws of package fleet call: each function's contract, without conditions but those that its statement names. -/
import Derived.Test.YtkeplgdofphnkaaGreatDoorEH
set_option maxHeartbeats 4000000
set_option maxRecDepth 10000
set_option linter.unusedVariables false
set_option linter.unusedSimpArgs false
set_option linter.unusedSectionVars false
namespace Go.Proofs.YtkeplgdofphnkaaGreatDoor
open Go Go.Ex Go.RowKit Go.Proofs.Tryz
theorem PL122:places prog 122=some [(0,1),(1,1)]:=by kernel_rfl
theorem PL158:places prog 158=some [(0,2),(2,1),(3,1),(4,1),(5,1),(6,1)]:=by kernel_rfl
theorem PL161:places prog 161=some [(0,1),(1,1),(2,1),(3,1)]:=by kernel_rfl
def looM:List StmtM:=[{ zeroS 1 with y:=1 },{ zeroS 11 with i:=2,j:=5,thn:=1 },{ zeroS 3 with y:=2,z:=3,x:=1,b:=[97],els:=2 },zeroS 12,{ zeroS 1 with y:=1,x:=3 },fldM [120] 1]
theorem loo_acc {G:Ghost} {A77:Option Addr} {c77:Nat} (h:Bytes G (.slice A77 1 c77) [97]):AccS G [[Vi 1,Vi 0,Vi 1,Vi 0,Vi 0,Vi 0,Vi 0,Vn,Vf,Vi 0,Vn,Vn,u64V 0,u64V 0,u64V 0,u64V 0,Vi 0,Vi 0,Vi 0,Vi 0,Vf,Vn,Vn,Vi 0,Vf,Vi 0,Vi 0,Vi 0,Vi 0,Vn,.string ⟨[].toArray⟩,Vi (-1),Vi (-1)],[Vi 11,Vi 0,Vi 0,Vi 0,Vi 0,Vi 2,Vi 5,Vn,Vf,Vi 0,Vn,Vn,u64V 0,u64V 0,u64V 0,u64V 0,Vi 0,Vi 0,Vi 0,Vi 0,Vf,Vn,Vn,Vi 0,Vf,Vi 0,Vi 0,Vi 0,Vi 0,Vn,.string ⟨[].toArray⟩,Vi 1,Vi (-1)],[Vi 3,Vi 1,Vi 2,Vi 3,Vi 0,Vi 0,Vi 0,.slice A77 1 c77,Vf,Vi 0,Vn,Vn,u64V 0,u64V 0,u64V 0,u64V 0,Vi 0,Vi 0,Vi 0,Vi 0,Vf,Vn,Vn,Vi 0,Vf,Vi 0,Vi 0,Vi 0,Vi 0,Vn,.string ⟨[].toArray⟩,Vi (-1),Vi 2],[Vi 12,Vi 0,Vi 0,Vi 0,Vi 0,Vi 0,Vi 0,Vn,Vf,Vi 0,Vn,Vn,u64V 0,u64V 0,u64V 0,u64V 0,Vi 0,Vi 0,Vi 0,Vi 0,Vf,Vn,Vn,Vi 0,Vf,Vi 0,Vi 0,Vi 0,Vi 0,Vn,.string ⟨[].toArray⟩,Vi (-1),Vi (-1)],[Vi 1,Vi 3,Vi 1,Vi 0,Vi 0,Vi 0,Vi 0,Vn,Vf,Vi 0,Vn,Vn,u64V 0,u64V 0,u64V 0,u64V 0,Vi 0,Vi 0,Vi 0,Vi 0,Vf,Vn,Vn,Vi 0,Vf,Vi 0,Vi 0,Vi 0,Vi 0,Vn,.string ⟨[].toArray⟩,Vi (-1),Vi (-1)],[Vi 13,Vi 1,Vi 0,Vi 0,Vi 0,Vi 0,Vi 0,Vn,Vf,Vi 0,Vn,Vn,u64V 0,u64V 0,u64V 0,u64V 0,Vi 0,Vi 0,Vi 0,Vi 0,Vf,Vn,Vn,Vi 0,Vf,Vi 0,Vi 0,Vi 0,Vi 0,Vn,.string ⟨#[120]⟩,Vi (-1),Vi (-1)]] looM :=
  ⟨⟨StR.plain (s:={ zeroS 1 with y:=1 }) rfl rfl rfl rfl rfl rfl,StR.plain (s:={ zeroS 11 with i:=2,j:=5,thn:=1 }) rfl rfl rfl rfl rfl rfl,⟨_,_,_,_,_,_,rfl,⟨h,fun e=>by cases e⟩,⟨Sl.nil _ _,fun _=>rfl⟩,⟨Sl.nil _ _,fun _=>rfl⟩,⟨LstR.nil,fun _=>rfl⟩,⟨Sl.nil _ _,fun _=>rfl⟩,⟨LstR.nil,fun _=>rfl⟩⟩,StR.plain (s:=zeroS 12) rfl rfl rfl rfl rfl rfl,StR.plain (s:={ zeroS 1 with y:=1,x:=3 }) rfl rfl rfl rfl rfl rfl,StR.plain (s:=(fldM [120] 1)) rfl rfl rfl rfl rfl rfl,trivial⟩,allLen rfl⟩
theorem rloo_ok {G:Ghost} :
  FnOk prog 63 [] G [] fun r G' H'=>∃ vs vb es us,r=.agg #[vs,vb]∧AccS G' es looM∧LRows G' us [[0,1,5],[2,4],[3]]∧H'=[.row 114 33 vs 6 es.flatten,.row 45 1 vb 3 us]:=by
 refine FnOk.of_T [] func63 rfl ntmps63 sM rfl fun w0 hs =>Wt 2 [] hs rfl<|O_s (Sa hs zeroValue70 rfl fun b0 _ hs=>Wp 3 [0] hs rfl<|O_s (Se hs zeroValue3 rfl fun v1 _ hs shl=>?_))
 obtain ⟨bl2,rfl⟩:=shl
 refine O_s (Se hs zeroValue45 rfl fun v2 _ hs shl=>?_)
 obtain ⟨bl3,rfl⟩:=shl
 refine Zy hs (Y_build zeroValue70 rfl PL70 rfl (cs:=[_,_]) rfl<|Zy hs (Y_build zeroValue158 rfl PL158 rfl (cs:=[_,_,_,_,_,_,_]) rfl<|O_s (Sa hs zeroValue158 rfl fun b1 _ hs=>O_n (Sg hs rfl (rfl) fun _ hs=>Wp 1 [0] hs rfl ?_))))
 have hs:=hs.nilRow 114 33
 refine Wu 2 [] hs rfl<|Zy hs (Y_build zeroValue161 rfl PL161 rfl (cs:=[_,_,_,_]) rfl<|O_s (Sc (rblo_ok (bb:=b1) (bv:=bl3) (cv:=1)) hs.f3.f3.f2.f3 rfl fun v3 G' H' _ hR hG7 hs=>?_))
 obtain ⟨vs5,bz,cz,xb,xe,xd,A77,c77,hl77,rfl⟩:=hR
 replace hs:=hs.n rfl
 refine Wp 3 [0] hs rfl<|O_s (Sc (rfld0_ok (x:=1)) hs rfl fun v4 G' H' _ hR hG8 hs=>?_)
 obtain ⟨rfl,rfl⟩:=hR
 replace hs:=hs.n rfl
 replace hl77:=hl77.mono hG8
 refine O_s (Sc (rbad_ok (k:=3) (j:=0) (n:=5) (m:=2) (l:=[0,1]) (css:=[[Vi 1,Vi 0,Vi 1,Vi 0,Vi 0,Vi 0,Vi 0,Vn,Vf,Vi 0,Vn,Vn,u64V 0,u64V 0,u64V 0,u64V 0,Vi 0,Vi 0,Vi 0,Vi 0,Vf,Vn,Vn,Vi 0,Vf,Vi 0,Vi 0,Vi 0,Vi 0,Vn,.string ⟨[].toArray⟩,Vi (-1),Vi (-1)],[Vi 11,Vi 0,Vi 0,Vi 0,Vi 0,Vi 2,Vi 5,Vn,Vf,Vi 0,Vn,Vn,u64V 0,u64V 0,u64V 0,u64V 0,Vi 0,Vi 0,Vi 0,Vi 0,Vf,Vn,Vn,Vi 0,Vf,Vi 0,Vi 0,Vi 0,Vi 0,Vn,.string ⟨[].toArray⟩,Vi 1,Vi (-1)],[Vi 3,Vi 1,Vi 2,Vi 3,Vi 0,Vi 0,Vi 0,.slice A77 1 c77,Vf,Vi 0,Vn,Vn,u64V 0,u64V 0,u64V 0,u64V 0,Vi 0,Vi 0,Vi 0,Vi 0,Vf,Vn,Vn,Vi 0,Vf,Vi 0,Vi 0,Vi 0,Vi 0,Vn,.string ⟨[].toArray⟩,Vi (-1),Vi 2],[Vi 12,Vi 0,Vi 0,Vi 0,Vi 0,Vi 0,Vi 0,Vn,Vf,Vi 0,Vn,Vn,u64V 0,u64V 0,u64V 0,u64V 0,Vi 0,Vi 0,Vi 0,Vi 0,Vf,Vn,Vn,Vi 0,Vf,Vi 0,Vi 0,Vi 0,Vi 0,Vn,.string ⟨[].toArray⟩,Vi (-1),Vi (-1)],[Vi 1,Vi 3,Vi 1,Vi 0,Vi 0,Vi 0,Vi 0,Vn,Vf,Vi 0,Vn,Vn,u64V 0,u64V 0,u64V 0,u64V 0,Vi 0,Vi 0,Vi 0,Vi 0,Vf,Vn,Vn,Vi 0,Vf,Vi 0,Vi 0,Vi 0,Vi 0,Vn,.string ⟨[].toArray⟩,Vi (-1),Vi (-1)]]) (xs:=[xb,xe,xd]) dC rfl rfl dC dC rfl) hs.f3.f3.f3.f3 rfl fun v5 G' H' _ hR hG9 hs=>?_)
 obtain ⟨vs6,xf,rfl⟩:=hR
 replace hs:=hs.n rfl
 replace hl77:=hl77.mono hG9
 refine Wp 5 [0,0,0] hs rfl<|O_n (Sg hs.f6 rfl (by simp only [List.all_cons,List.all_nil,hs.f6.rowOne 2 rfl,hs.f6.rowOne 3 rfl];rfl) fun _ hs=>Wp 1 [0] hs rfl<|T_ret ?_)
 have hs:=hs.f4
 obtain ⟨_,hG_hf1,hf1,hs⟩:=hs.fixRow noM
 replace hl77:=hl77.mono hG_hf1
 have hs:=hs.f4
 obtain ⟨_,hG_hf2,hf2,hs⟩:=hs.fixRow noM
 replace hl77:=hl77.mono hG_hf2
 replace hf1:=hf1.mono hG_hf2
 have hs:=hs.f4
 obtain ⟨_,hG_hf3,hf3,hs⟩:=hs.fixRow noM
 replace hl77:=hl77.mono hG_hf3
 replace hf1:=hf1.mono hG_hf3
 replace hf2:=hf2.mono hG_hf3
 have hs:=hs.f3.f3
 refine Zz results63 (Rb 2 hs rfl rF) ?_
 exact ⟨_,_,hs.weak hs.le (Ghost.le.refl _) (List.sublist_append_left [_,_] _),vs6,_,[[Vi 1,Vi 0,Vi 1,Vi 0,Vi 0,Vi 0,Vi 0,Vn,Vf,Vi 0,Vn,Vn,u64V 0,u64V 0,u64V 0,u64V 0,Vi 0,Vi 0,Vi 0,Vi 0,Vf,Vn,Vn,Vi 0,Vf,Vi 0,Vi 0,Vi 0,Vi 0,Vn,.string ⟨[].toArray⟩,Vi (-1),Vi (-1)],[Vi 11,Vi 0,Vi 0,Vi 0,Vi 0,Vi 2,Vi 5,Vn,Vf,Vi 0,Vn,Vn,u64V 0,u64V 0,u64V 0,u64V 0,Vi 0,Vi 0,Vi 0,Vi 0,Vf,Vn,Vn,Vi 0,Vf,Vi 0,Vi 0,Vi 0,Vi 0,Vn,.string ⟨[].toArray⟩,Vi 1,Vi (-1)],[Vi 3,Vi 1,Vi 2,Vi 3,Vi 0,Vi 0,Vi 0,.slice A77 1 c77,Vf,Vi 0,Vn,Vn,u64V 0,u64V 0,u64V 0,u64V 0,Vi 0,Vi 0,Vi 0,Vi 0,Vf,Vn,Vn,Vi 0,Vf,Vi 0,Vi 0,Vi 0,Vi 0,Vn,.string ⟨[].toArray⟩,Vi (-1),Vi 2],[Vi 12,Vi 0,Vi 0,Vi 0,Vi 0,Vi 0,Vi 0,Vn,Vf,Vi 0,Vn,Vn,u64V 0,u64V 0,u64V 0,u64V 0,Vi 0,Vi 0,Vi 0,Vi 0,Vf,Vn,Vn,Vi 0,Vf,Vi 0,Vi 0,Vi 0,Vi 0,Vn,.string ⟨[].toArray⟩,Vi (-1),Vi (-1)],[Vi 1,Vi 3,Vi 1,Vi 0,Vi 0,Vi 0,Vi 0,Vn,Vf,Vi 0,Vn,Vn,u64V 0,u64V 0,u64V 0,u64V 0,Vi 0,Vi 0,Vi 0,Vi 0,Vf,Vn,Vn,Vi 0,Vf,Vi 0,Vi 0,Vi 0,Vi 0,Vn,.string ⟨[].toArray⟩,Vi (-1),Vi (-1)],[Vi 13,Vi 1,Vi 0,Vi 0,Vi 0,Vi 0,Vi 0,Vn,Vf,Vi 0,Vn,Vn,u64V 0,u64V 0,u64V 0,u64V 0,Vi 0,Vi 0,Vi 0,Vi 0,Vf,Vn,Vn,Vi 0,Vf,Vi 0,Vi 0,Vi 0,Vi 0,Vn,.string ⟨#[120]⟩,Vi (-1),Vi (-1)]],[xf,xe,xd],rfl,loo_acc hl77,⟨hf1,hf2,hf3,trivial⟩,rfl⟩
def smallP:Nat→ProgM
  | 0=>⟨[fldM [120] 0],[[0]]⟩
  | 1=>⟨[{ zeroS 3 with y:=1,z:=2,b:=[97],els:=1 },fldM [120] 1,fldM [121] 2,rejM],[[0,1,2],[3]]⟩
  | 2=>⟨[{ zeroS 3 with y:=1,z:=2,b:=[97],last:=true,els:=1 },fldM [120] 1,fldM [121] 2,rejM],[[0,1,2],[3]]⟩
  | 3=>⟨[{ zeroS 7 with y:=1,c1:=8589934592 },fldM [120] 1],[[0,1]]⟩
  | 4=>⟨[{ zeroS 6 with y:=1,op:=⟨6,[97],[98]⟩ },fldM [120] 1],[[0,1]]⟩
  | 5=>⟨[{ zeroS 6 with y:=1,op:=⟨5,[98],[]⟩ },fldM [120] 1],[[0,1]]⟩
  | 6=>⟨choM ⟨1,false,0,0,0,0,starX clA⟩,[[0],[1],[2]]⟩
  | 7=>⟨[{ zeroS 4 with y:=1,i:=0,j:=1 },fldM [120] 1],[[0,1]]⟩
  | 8=>⟨[{ zeroS 4 with y:=1,i:=1,j:=-1 },fldM [120] 1],[[0,1]]⟩
  | 9=>⟨looM,[[0,1,5],[2,4],[3]]⟩
  | 10=>⟨[{ zeroS 9 with p:=[⟨starX clA,false⟩,⟨starX clAB,false⟩],ys:=[1,2],els:=1 },fldM [120] 1,rejM],[[0,1],[2]]⟩
  | 11=>⟨[{ zeroS 9 with p:=[⟨starX clAB,true⟩,⟨starX clB,false⟩],ys:=[1,2],els:=1 },fldM [120] 1,rejM],[[0,1],[2]]⟩
  | 12=>⟨choM ⟨3,false,0,0,0,2,[]⟩,[[0],[1],[2]]⟩
  | _=>⟨[{ zeroS 8 with rule:=⟨16,2,11,2,false⟩,els:=1 },fldM [120] 0,rejM],[[0,1],[2]]⟩
theorem lett1c_ok {G:Ghost}:FnOk prog 59 [Vi 1] G [] fun r _ H'=>H'=[]∧r=.agg #[u64V 0,u64V 8589934592,u64V 0,u64V 0]:=lett1_ok.mono fun r G' H' _ h=>⟨h.1,h.2.trans rfl⟩
theorem lrow1 {G:Ghost} {u:Value} {l:List Nat} (h:Nats G u l):LRows G [u] [l]:=⟨h,trivial⟩
theorem pat_two {G:Ghost} {v a b:Value} {x y:List NodeV} {p q:Bool} (h:Sl G v 2 2 [a,.bool p,b,.bool q]) (ha:Rx G a x) (hb:Rx G b y):Pat G v [⟨x,p⟩,⟨y,q⟩] :=
  LstR.ofSl (cs:=[[a,.bool p],[b,.bool q]]) h rfl rfl ⟨⟨_,rfl,ha⟩,⟨_,rfl,hb⟩,trivial⟩ Z12
theorem rsml_ok {G:Ghost} {k:UInt8} :
  FnOk prog 33 [.int .u8 (k.toNat:Int)] G [] fun r G' H'=>H'=[]∧∃ vs vb,r=.agg #[vs,vb]∧PgR G' [vs,vb] (smallP (k.toNat % 14)):=by
 have hk:=k.toNat_lt
 refine FnOk.of_T [(0,_)] func33 rfl ntmps33 sM rfl fun w0 hs =>Wt 2 [] hs rfl<|O_s (Sa hs zeroValue70 rfl fun b2 _ hs=>Wp 3 [0] hs rfl<|Zy hs (Y_build zeroValue114 rfl PL114 rfl (cs:=[_,_,_,_,_,_,_,_,_,_,_,_,_,_,_,_,_,_,_,_,_,_,_,_,_,_,_,_,_,_,_,_,_]) rfl<|O_s (Sa hs zeroValue114 rfl fun b3 _ hs=>O_n (Sg hs rfl (rfl) fun _ hs=>Wp 3 [0] hs rfl<|Zy hs (Y_build zeroValue114 rfl PL114 rfl (cs:=[_,_,_,_,_,_,_,_,_,_,_,_,_,_,_,_,_,_,_,_,_,_,_,_,_,_,_,_,_,_,_,_,_]) rfl<|O_s (Sa hs zeroValue114 rfl fun b4 _ hs=>O_n (Sg hs rfl (rfl) fun _ hs=>Wp 3 [0] hs rfl<|Zy hs (Y_build zeroValue114 rfl PL114 rfl (cs:=[_,_,_,_,_,_,_,_,_,_,_,_,_,_,_,_,_,_,_,_,_,_,_,_,_,_,_,_,_,_,_,_,_]) rfl<|O_s (Sa hs zeroValue114 rfl fun b5 _ hs=>O_n (Sg hs rfl (rfl) fun _ hs=>Wp 3 [0] hs rfl<|O_s (Se hs zeroValue5 rfl fun v1 _ hs _=>?_)))))))))))
 have hsN:=hs.fixRow noM
 clear hs
 obtain ⟨_,hG11,hl11,hs⟩:=hsN
 obtain ⟨A11,c11,rfl,_⟩:=id hl11
 refine Zy hs (Y_build zeroValue114 rfl PL114 rfl (cs:=[_,_,_,_,_,_,_,_,_,_,_,_,_,_,_,_,_,_,_,_,_,_,_,_,_,_,_,_,_,_,_,_,_]) rfl<|O_s (Sa hs zeroValue114 rfl fun b6 _ hs=>O_n (Sg hs rfl (rfl) fun _ hs=>Wp 4 [0,0] hs rfl<|O_s (Sa hs zeroValue114 rfl fun b7 _ hs=>O_n (Sg hs rfl (rfl) fun _ hs=>Wp 4 [0,8] hs rfl<|O_n (Sd hs rfl rfl fun _ hs=>Wp 5 [0] hs rfl<|Zy hs (Y_rem (c:=((k.toNat % 14:Nat):Int)) rfl rfl oM oM oM<|Wp 4 [0] hs rfl<|Zy hs (Yc rfl (fun h18=>?_) fun h18=>?_))))))))
 ·
  refine Wp 6 [0,4] hs rfl<|O_s (S_litK hs underlying68 sizeOf114 zeroValue114 kR kR kR rfl (es:=[[_,_,_,_,_,_,_,_,_,_,_,_,_,_,_,_,_,_,_,_,_,_,_,_,_,_,_,_,_,_,_,_,_]]) rfl rfl fun v2 _ hs shl=>?_)
  obtain ⟨bl20,rfl⟩:=shl
  refine O_s (Sc (rlin_ok (b:=bl20) (n:=1) (css:=[[Vi 13,Vi 0,Vi 0,Vi 0,Vi 0,Vi 0,Vi 0,Vn,Vf,Vi 0,Vn,Vn,u64V 0,u64V 0,u64V 0,u64V 0,Vi 0,Vi 0,Vi 0,Vi 0,Vf,Vn,Vn,Vi 0,Vf,Vi 0,Vi 0,Vi 0,Vi 0,Vn,.string ⟨#[120]⟩,Vi 0,Vi 0]]) (ss:=[{ zeroS 13 with name:=[120],thn:=0,els:=0 }]) rfl dC dC ⟨⟨StR.plain (s:={ zeroS 13 with name:=[120],thn:=0,els:=0 }) rfl rfl rfl rfl rfl rfl,trivial⟩,allLen rfl⟩) hs rfl fun v3 G' H' _ hR hG21 hs=>?_)
  obtain ⟨vs,vb,es,u,rfl,hE,hU,rfl⟩:=hR
  replace hs:=hs.n rfl
  refine O_n (Sg hs.f7 rfl Z15 fun _ hs=>Wp 1 [1,2] hs rfl<|T_ret ?_)
  have hs:=hs.f1
  obtain ⟨_,hG_hfs,hfs,hs⟩:=hs.fixRow noM
  replace hE:=hE.mono hG_hfs
  replace hU:=hU.mono hG_hfs
  have hs:=hs.f1
  obtain ⟨_,hG_hfb,hfb,hs⟩:=hs.fixRow noM
  replace hE:=hE.mono hG_hfb
  replace hU:=hU.mono hG_hfb
  replace hfs:=hfs.mono hG_hfb
  refine Zz results33 (Rb 0 hs rfl rF) ?_
  exact ⟨_,[],hs.done,rfl,vs,vb,rfl,by rw [show k.toNat % 14=0 from by omega];exact pgR_of (p:=smallP 0) hE (lrow1 hU) hfs hfb rfl rfl (fun e=>by cases e) (fun e=>by cases e)⟩
 refine Wp 5 [0] hs rfl<|Zy hs (Yc rfl (fun h23=>?_) fun h23=>?_)
 ·
  refine Wp 8 [8,2,3,4,5,6,7,16,22,1,3,2] hs rfl<|O_s (S_litK hs underlying68 sizeOf114 zeroValue114 kR kR kR rfl (es:=[[_,_,_,_,_,_,_,_,_,_,_,_,_,_,_,_,_,_,_,_,_,_,_,_,_,_,_,_,_,_,_,_,_],[_,_,_,_,_,_,_,_,_,_,_,_,_,_,_,_,_,_,_,_,_,_,_,_,_,_,_,_,_,_,_,_,_],[_,_,_,_,_,_,_,_,_,_,_,_,_,_,_,_,_,_,_,_,_,_,_,_,_,_,_,_,_,_,_,_,_]]) rfl rfl fun v4 _ hs shl=>?_)
  obtain ⟨bl27,rfl⟩:=shl
  refine O_s (Sc (rgrd_ok (b:=bl27) (n:=3) (css:=[[Vi 3,Vi 0,Vi 1,Vi 2,Vi 0,Vi 0,Vi 0,.slice A11 1 c11,Vf,Vi 0,Vn,Vn,u64V 0,u64V 0,u64V 0,u64V 0,Vi 0,Vi 0,Vi 0,Vi 0,Vf,Vn,Vn,Vi 0,Vf,Vi 0,Vi 0,Vi 0,Vi 0,Vn,.string ⟨[].toArray⟩,Vi 0,Vi 0],[Vi 13,Vi 1,Vi 0,Vi 0,Vi 0,Vi 0,Vi 0,Vn,Vf,Vi 0,Vn,Vn,u64V 0,u64V 0,u64V 0,u64V 0,Vi 0,Vi 0,Vi 0,Vi 0,Vf,Vn,Vn,Vi 0,Vf,Vi 0,Vi 0,Vi 0,Vi 0,Vn,.string ⟨#[120]⟩,Vi 0,Vi 0],[Vi 13,Vi 2,Vi 0,Vi 0,Vi 0,Vi 0,Vi 0,Vn,Vf,Vi 0,Vn,Vn,u64V 0,u64V 0,u64V 0,u64V 0,Vi 0,Vi 0,Vi 0,Vi 0,Vf,Vn,Vn,Vi 0,Vf,Vi 0,Vi 0,Vi 0,Vi 0,Vn,.string ⟨#[121]⟩,Vi 0,Vi 0]]) (ss:=[{ zeroS 3 with y:=1,z:=2,b:=[97],thn:=0,els:=0 },{ zeroS 13 with name:=[120],x:=1,thn:=0,els:=0 },{ zeroS 13 with name:=[121],x:=2,thn:=0,els:=0 }]) rfl dC dC ⟨⟨⟨_,_,_,_,_,_,rfl,⟨hl11,fun e=>by cases e⟩,⟨Sl.nil _ _,fun _=>rfl⟩,⟨Sl.nil _ _,fun _=>rfl⟩,⟨LstR.nil,fun _=>rfl⟩,⟨Sl.nil _ _,fun _=>rfl⟩,⟨LstR.nil,fun _=>rfl⟩⟩,StR.plain (s:={ zeroS 13 with name:=[120],x:=1,thn:=0,els:=0 }) rfl rfl rfl rfl rfl rfl,StR.plain (s:={ zeroS 13 with name:=[121],x:=2,thn:=0,els:=0 }) rfl rfl rfl rfl rfl rfl,trivial⟩,allLen rfl⟩) hs rfl fun v5 G' H' _ hR hG28 hs=>?_)
  obtain ⟨vs,vb,es,us,rfl,hE,hU,rfl⟩:=hR
  replace hs:=hs.n rfl
  refine O_n (Sg hs.f7 rfl Z15 fun _ hs=>Wp 1 [0] hs rfl<|T_ret ?_)
  have hs:=hs.f1
  obtain ⟨_,hG_hfs,hfs,hs⟩:=hs.fixRow noM
  replace hE:=hE.mono hG_hfs
  replace hU:=hU.mono hG_hfs
  have hs:=hs.f1
  obtain ⟨_,hG_hfb,hfb,hs⟩:=hs.fixRow noM
  replace hE:=hE.mono hG_hfb
  replace hU:=hU.mono hG_hfb
  replace hfs:=hfs.mono hG_hfb
  refine Zz results33 (Rb 0 hs rfl rF) ?_
  exact ⟨_,[],hs.done,rfl,vs,vb,rfl,by rw [show k.toNat % 14=1 from by omega];exact pgR_of (p:=smallP 1) hE hU hfs hfb rfl rfl (fun e=>by cases e) (fun e=>by cases e)⟩
 refine Wp 5 [8,2,3,4,5,6,7,16,22] hs rfl<|Zy hs (Yc rfl (fun h30=>?_) fun h30=>?_)
 ·
  refine Wp 8 [0,0,3,2] hs rfl<|O_s (S_litK hs underlying68 sizeOf114 zeroValue114 kR kR kR rfl (es:=[[_,_,_,_,_,_,_,_,_,_,_,_,_,_,_,_,_,_,_,_,_,_,_,_,_,_,_,_,_,_,_,_,_],[_,_,_,_,_,_,_,_,_,_,_,_,_,_,_,_,_,_,_,_,_,_,_,_,_,_,_,_,_,_,_,_,_],[_,_,_,_,_,_,_,_,_,_,_,_,_,_,_,_,_,_,_,_,_,_,_,_,_,_,_,_,_,_,_,_,_]]) rfl rfl fun v6 _ hs shl=>?_)
  obtain ⟨bl34,rfl⟩:=shl
  refine O_s (Sc (rgrd_ok (b:=bl34) (n:=3) (css:=[[Vi 3,Vi 0,Vi 1,Vi 2,Vi 0,Vi 0,Vi 0,.slice A11 1 c11,Vt,Vi 0,Vn,Vn,u64V 0,u64V 0,u64V 0,u64V 0,Vi 0,Vi 0,Vi 0,Vi 0,Vf,Vn,Vn,Vi 0,Vf,Vi 0,Vi 0,Vi 0,Vi 0,Vn,.string ⟨[].toArray⟩,Vi 0,Vi 0],[Vi 13,Vi 1,Vi 0,Vi 0,Vi 0,Vi 0,Vi 0,Vn,Vf,Vi 0,Vn,Vn,u64V 0,u64V 0,u64V 0,u64V 0,Vi 0,Vi 0,Vi 0,Vi 0,Vf,Vn,Vn,Vi 0,Vf,Vi 0,Vi 0,Vi 0,Vi 0,Vn,.string ⟨#[120]⟩,Vi 0,Vi 0],[Vi 13,Vi 2,Vi 0,Vi 0,Vi 0,Vi 0,Vi 0,Vn,Vf,Vi 0,Vn,Vn,u64V 0,u64V 0,u64V 0,u64V 0,Vi 0,Vi 0,Vi 0,Vi 0,Vf,Vn,Vn,Vi 0,Vf,Vi 0,Vi 0,Vi 0,Vi 0,Vn,.string ⟨#[121]⟩,Vi 0,Vi 0]]) (ss:=[{ zeroS 3 with y:=1,z:=2,b:=[97],last:=true,thn:=0,els:=0 },{ zeroS 13 with name:=[120],x:=1,thn:=0,els:=0 },{ zeroS 13 with name:=[121],x:=2,thn:=0,els:=0 }]) rfl dC dC ⟨⟨⟨_,_,_,_,_,_,rfl,⟨hl11,fun e=>by cases e⟩,⟨Sl.nil _ _,fun _=>rfl⟩,⟨Sl.nil _ _,fun _=>rfl⟩,⟨LstR.nil,fun _=>rfl⟩,⟨Sl.nil _ _,fun _=>rfl⟩,⟨LstR.nil,fun _=>rfl⟩⟩,StR.plain (s:={ zeroS 13 with name:=[120],x:=1,thn:=0,els:=0 }) rfl rfl rfl rfl rfl rfl,StR.plain (s:={ zeroS 13 with name:=[121],x:=2,thn:=0,els:=0 }) rfl rfl rfl rfl rfl rfl,trivial⟩,allLen rfl⟩) hs rfl fun v7 G' H' _ hR hG35 hs=>?_)
  obtain ⟨vs,vb,es,us,rfl,hE,hU,rfl⟩:=hR
  replace hs:=hs.n rfl
  refine O_n (Sg hs.f7 rfl Z15 fun _ hs=>Wp 1 [0] hs rfl<|T_ret ?_)
  have hs:=hs.f1
  obtain ⟨_,hG_hfs,hfs,hs⟩:=hs.fixRow noM
  replace hE:=hE.mono hG_hfs
  replace hU:=hU.mono hG_hfs
  have hs:=hs.f1
  obtain ⟨_,hG_hfb,hfb,hs⟩:=hs.fixRow noM
  replace hE:=hE.mono hG_hfb
  replace hU:=hU.mono hG_hfb
  replace hfs:=hfs.mono hG_hfb
  refine Zz results33 (Rb 0 hs rfl rF) ?_
  exact ⟨_,[],hs.done,rfl,vs,vb,rfl,by rw [show k.toNat % 14=2 from by omega];exact pgR_of (p:=smallP 2) hE hU hfs hfb rfl rfl (fun e=>by cases e) (fun e=>by cases e)⟩
 refine Wp 5 [0] hs rfl<|Zy hs (Yc rfl (fun h37=>?_) fun h37=>?_)
 ·
  refine Wp 4 [0] hs rfl<|T_drawS [0,1,2,3] hs kR ?_
  replace hs:=hs.drew
  refine Xr [2] [3] hs rfl ?_
  have hle:=hs.le
  refine Xo 0 rfl (Sc (lett1c_ok) hs rfl fun v8 G' H' _ hR hG38 hs=>?_)
  obtain ⟨rfl,rfl⟩:=hR
  replace hs:=hs.n rfl
  refine A_moreS hs hle hG38 (List.Sublist.refl _)<|Xt 1 hs rfl (Y_build zeroValue114 rfl PL114 rfl (cs:=[_,_,_,_,_,_,_,_,_,_,_,_,_,_,_,_,_,_,_,_,_,_,_,_,_,_,_,_,_,_,_,_,_]) rfl ?_)
  have hle:=hs.le
  refine Xo 3 rfl (S_litK hs underlying68 sizeOf114 zeroValue114 kR kR kR rfl (es:=[[_,_,_,_,_,_,_,_,_,_,_,_,_,_,_,_,_,_,_,_,_,_,_,_,_,_,_,_,_,_,_,_,_],[_,_,_,_,_,_,_,_,_,_,_,_,_,_,_,_,_,_,_,_,_,_,_,_,_,_,_,_,_,_,_,_,_]]) rfl rfl fun v9 _ hs shl=>?_)
  obtain ⟨bl41,rfl⟩:=shl
  refine A_moreS hs hle (Ghost.le.refl _) (List.sublist_cons_self _ _)<|Xa 4 rfl (Sc (rlin_ok (b:=bl41) (n:=2) (css:=[[Vi 7,Vi 0,Vi 1,Vi 0,Vi 0,Vi 0,Vi 0,Vn,Vf,Vi 0,Vn,Vn,u64V 0,u64V 8589934592,u64V 0,u64V 0,Vi 0,Vi 0,Vi 0,Vi 0,Vf,Vn,Vn,Vi 0,Vf,Vi 0,Vi 0,Vi 0,Vi 0,Vn,.string ⟨[].toArray⟩,Vi 0,Vi 0],[Vi 13,Vi 1,Vi 0,Vi 0,Vi 0,Vi 0,Vi 0,Vn,Vf,Vi 0,Vn,Vn,u64V 0,u64V 0,u64V 0,u64V 0,Vi 0,Vi 0,Vi 0,Vi 0,Vf,Vn,Vn,Vi 0,Vf,Vi 0,Vi 0,Vi 0,Vi 0,Vn,.string ⟨#[120]⟩,Vi 0,Vi 0]]) (ss:=[{ zeroS 7 with y:=1,c1:=8589934592,thn:=0,els:=0 },{ zeroS 13 with name:=[120],x:=1,thn:=0,els:=0 }]) rfl dC dC ⟨⟨StR.plain (s:={ zeroS 7 with y:=1,c1:=8589934592,thn:=0,els:=0 }) rfl rfl rfl rfl rfl rfl,StR.plain (s:={ zeroS 13 with name:=[120],x:=1,thn:=0,els:=0 }) rfl rfl rfl rfl rfl rfl,trivial⟩,allLen rfl⟩) hs rfl fun v10 G' H' _ hR hG42 hs=>?_)
  obtain ⟨vs,vb,es,u,rfl,hE,hU,rfl⟩:=hR
  replace hs:=hs.n rfl
  refine Xn 5 rfl (Sg hs.f7 rfl Z15 fun _ hs=>Xe (Zk [2] rfl<|T_ret ?_))
  have hs:=hs.f1
  obtain ⟨_,hG_hfs,hfs,hs⟩:=hs.fixRow noM
  replace hE:=hE.mono hG_hfs
  replace hU:=hU.mono hG_hfs
  have hs:=hs.f1
  obtain ⟨_,hG_hfb,hfb,hs⟩:=hs.fixRow noM
  replace hE:=hE.mono hG_hfb
  replace hU:=hU.mono hG_hfb
  replace hfs:=hfs.mono hG_hfb
  refine Zz results33 (Rb 0 hs rfl rF) ?_
  exact ⟨_,[],hs.done,rfl,vs,vb,rfl,by rw [show k.toNat % 14=3 from by omega];exact pgR_of (p:=smallP 3) hE (lrow1 hU) hfs hfb rfl rfl (fun e=>by cases e) (fun e=>by cases e)⟩
 refine Wp 5 [0] hs rfl<|Zy hs (Yc rfl (fun h44=>?_) fun h44=>?_)
 ·
  refine Wp 4 [0] hs rfl<|T_drawS [0,1,2,3] hs kR ?_
  replace hs:=hs.drew
  refine Xr [2] [3] hs rfl ?_
  have hle:=hs.le
  refine Xo 0 rfl (Sc (rop2_ok) hs rfl fun v11 G' H' _ hR hG45 hs=>?_)
  obtain ⟨rfl,A45,c45,B45,d45,rfl,h45,g45⟩:=hR
  replace hs:=hs.n rfl
  refine A_moreS hs hle hG45 (List.Sublist.refl _)<|Xt 1 hs rfl (Y_build zeroValue114 rfl PL114 rfl (cs:=[_,_,_,_,_,_,_,_,_,_,_,_,_,_,_,_,_,_,_,_,_,_,_,_,_,_,_,_,_,_,_,_,_]) rfl ?_)
  have hle:=hs.le
  refine Xo 3 rfl (S_litK hs underlying68 sizeOf114 zeroValue114 kR kR kR rfl (es:=[[_,_,_,_,_,_,_,_,_,_,_,_,_,_,_,_,_,_,_,_,_,_,_,_,_,_,_,_,_,_,_,_,_],[_,_,_,_,_,_,_,_,_,_,_,_,_,_,_,_,_,_,_,_,_,_,_,_,_,_,_,_,_,_,_,_,_]]) rfl rfl fun v12 _ hs shl=>?_)
  obtain ⟨bl48,rfl⟩:=shl
  refine A_moreS hs hle (Ghost.le.refl _) (List.sublist_cons_self _ _)<|Xa 4 rfl (Sc (rlin_ok (b:=bl48) (n:=2) (css:=[[Vi 6,Vi 0,Vi 1,Vi 0,Vi 0,Vi 0,Vi 0,Vn,Vf,Vi 6,.slice A45 1 c45,.slice B45 1 d45,u64V 0,u64V 0,u64V 0,u64V 0,Vi 0,Vi 0,Vi 0,Vi 0,Vf,Vn,Vn,Vi 0,Vf,Vi 0,Vi 0,Vi 0,Vi 0,Vn,.string ⟨[].toArray⟩,Vi 0,Vi 0],[Vi 13,Vi 1,Vi 0,Vi 0,Vi 0,Vi 0,Vi 0,Vn,Vf,Vi 0,Vn,Vn,u64V 0,u64V 0,u64V 0,u64V 0,Vi 0,Vi 0,Vi 0,Vi 0,Vf,Vn,Vn,Vi 0,Vf,Vi 0,Vi 0,Vi 0,Vi 0,Vn,.string ⟨#[120]⟩,Vi 0,Vi 0]]) (ss:=[{ zeroS 6 with y:=1,op:=⟨6,[97],[98]⟩,thn:=0,els:=0 },{ zeroS 13 with name:=[120],x:=1,thn:=0,els:=0 }]) rfl dC dC ⟨⟨⟨_,_,_,_,_,_,rfl,⟨Sl.nil _ _,fun _=>rfl⟩,⟨h45,fun e=>by cases e⟩,⟨g45,fun e=>by cases e⟩,⟨LstR.nil,fun _=>rfl⟩,⟨Sl.nil _ _,fun _=>rfl⟩,⟨LstR.nil,fun _=>rfl⟩⟩,StR.plain (s:={ zeroS 13 with name:=[120],x:=1,thn:=0,els:=0 }) rfl rfl rfl rfl rfl rfl,trivial⟩,allLen rfl⟩) hs rfl fun v13 G' H' _ hR hG49 hs=>?_)
  obtain ⟨vs,vb,es,u,rfl,hE,hU,rfl⟩:=hR
  replace hs:=hs.n rfl
  refine Xn 5 rfl (Sg hs.f7 rfl Z15 fun _ hs=>Xe (Zk [2] rfl<|T_ret ?_))
  have hs:=hs.f1
  obtain ⟨_,hG_hfs,hfs,hs⟩:=hs.fixRow noM
  replace hE:=hE.mono hG_hfs
  replace hU:=hU.mono hG_hfs
  have hs:=hs.f1
  obtain ⟨_,hG_hfb,hfb,hs⟩:=hs.fixRow noM
  replace hE:=hE.mono hG_hfb
  replace hU:=hU.mono hG_hfb
  replace hfs:=hfs.mono hG_hfb
  refine Zz results33 (Rb 0 hs rfl rF) ?_
  exact ⟨_,[],hs.done,rfl,vs,vb,rfl,by rw [show k.toNat % 14=4 from by omega];exact pgR_of (p:=smallP 4) hE (lrow1 hU) hfs hfb rfl rfl (fun e=>by cases e) (fun e=>by cases e)⟩
 refine Wp 5 [0] hs rfl<|Zy hs (Yc rfl (fun h51=>?_) fun h51=>?_)
 ·
  refine Wp 4 [0] hs rfl<|T_drawS [0,1,2,3] hs kR ?_
  replace hs:=hs.drew
  refine Xr [2] [3] hs rfl ?_
  have hle:=hs.le
  refine Xo 0 rfl (Sc (rop3_ok) hs rfl fun v14 G' H' _ hR hG52 hs=>?_)
  obtain ⟨rfl,A52,c52,rfl,h52⟩:=hR
  replace hs:=hs.n rfl
  refine A_moreS hs hle hG52 (List.Sublist.refl _)<|Xt 1 hs rfl (Y_build zeroValue114 rfl PL114 rfl (cs:=[_,_,_,_,_,_,_,_,_,_,_,_,_,_,_,_,_,_,_,_,_,_,_,_,_,_,_,_,_,_,_,_,_]) rfl ?_)
  have hle:=hs.le
  refine Xo 3 rfl (S_litK hs underlying68 sizeOf114 zeroValue114 kR kR kR rfl (es:=[[_,_,_,_,_,_,_,_,_,_,_,_,_,_,_,_,_,_,_,_,_,_,_,_,_,_,_,_,_,_,_,_,_],[_,_,_,_,_,_,_,_,_,_,_,_,_,_,_,_,_,_,_,_,_,_,_,_,_,_,_,_,_,_,_,_,_]]) rfl rfl fun v15 _ hs shl=>?_)
  obtain ⟨bl55,rfl⟩:=shl
  refine A_moreS hs hle (Ghost.le.refl _) (List.sublist_cons_self _ _)<|Xa 4 rfl (Sc (rlin_ok (b:=bl55) (n:=2) (css:=[[Vi 6,Vi 0,Vi 1,Vi 0,Vi 0,Vi 0,Vi 0,Vn,Vf,Vi 5,.slice A52 1 c52,Vn,u64V 0,u64V 0,u64V 0,u64V 0,Vi 0,Vi 0,Vi 0,Vi 0,Vf,Vn,Vn,Vi 0,Vf,Vi 0,Vi 0,Vi 0,Vi 0,Vn,.string ⟨[].toArray⟩,Vi 0,Vi 0],[Vi 13,Vi 1,Vi 0,Vi 0,Vi 0,Vi 0,Vi 0,Vn,Vf,Vi 0,Vn,Vn,u64V 0,u64V 0,u64V 0,u64V 0,Vi 0,Vi 0,Vi 0,Vi 0,Vf,Vn,Vn,Vi 0,Vf,Vi 0,Vi 0,Vi 0,Vi 0,Vn,.string ⟨#[120]⟩,Vi 0,Vi 0]]) (ss:=[{ zeroS 6 with y:=1,op:=⟨5,[98],[]⟩,thn:=0,els:=0 },{ zeroS 13 with name:=[120],x:=1,thn:=0,els:=0 }]) rfl dC dC ⟨⟨⟨_,_,_,_,_,_,rfl,⟨Sl.nil _ _,fun _=>rfl⟩,⟨h52,fun e=>by cases e⟩,⟨Sl.nil _ _,fun _=>rfl⟩,⟨LstR.nil,fun _=>rfl⟩,⟨Sl.nil _ _,fun _=>rfl⟩,⟨LstR.nil,fun _=>rfl⟩⟩,StR.plain (s:={ zeroS 13 with name:=[120],x:=1,thn:=0,els:=0 }) rfl rfl rfl rfl rfl rfl,trivial⟩,allLen rfl⟩) hs rfl fun v16 G' H' _ hR hG56 hs=>?_)
  obtain ⟨vs,vb,es,u,rfl,hE,hU,rfl⟩:=hR
  replace hs:=hs.n rfl
  refine Xn 5 rfl (Sg hs.f7 rfl Z15 fun _ hs=>Xe (Zk [2] rfl<|T_ret ?_))
  have hs:=hs.f1
  obtain ⟨_,hG_hfs,hfs,hs⟩:=hs.fixRow noM
  replace hE:=hE.mono hG_hfs
  replace hU:=hU.mono hG_hfs
  have hs:=hs.f1
  obtain ⟨_,hG_hfb,hfb,hs⟩:=hs.fixRow noM
  replace hE:=hE.mono hG_hfb
  replace hU:=hU.mono hG_hfb
  replace hfs:=hfs.mono hG_hfb
  refine Zz results33 (Rb 0 hs rfl rF) ?_
  exact ⟨_,[],hs.done,rfl,vs,vb,rfl,by rw [show k.toNat % 14=5 from by omega];exact pgR_of (p:=smallP 5) hE (lrow1 hU) hfs hfb rfl rfl (fun e=>by cases e) (fun e=>by cases e)⟩
 refine Wp 5 [0] hs rfl<|Zy hs (Yc rfl (fun h58=>?_) fun h58=>?_)
 ·
  refine Wp 5 [0] hs rfl<|O_s (Sc (rexp_ok) hs rfl fun v17 G' H' _ hR hG59 hs=>?_)
  obtain ⟨rfl,h59⟩:=hR
  replace hs:=hs.n rfl
  obtain ⟨A59,c59,rfl⟩:=LstR.slice h59
  refine Zy hs (Y_build zeroValue112 rfl PL112 rfl (cs:=[_,_,_,_,_,_,_]) rfl<|O_s (Sc (rcho_ok (cd:=⟨1,false,0,0,0,0,starX clA⟩) (Ar:=A59) (kr:=c59) h59 (fun e=>by cases e)) hs rfl fun v18 G' H' _ hR hG61 hs=>?_))
  obtain ⟨vs,vb,es,us,rfl,hE,hU,rfl⟩:=hR
  replace hs:=hs.n rfl
  refine O_n (Sg hs.f7 rfl Z15 fun _ hs=>Wp 1 [0] hs rfl<|T_ret ?_)
  have hs:=hs.f1
  obtain ⟨_,hG_hfs,hfs,hs⟩:=hs.fixRow noM
  replace hE:=hE.mono hG_hfs
  replace hU:=hU.mono hG_hfs
  have hs:=hs.f1
  obtain ⟨_,hG_hfb,hfb,hs⟩:=hs.fixRow noM
  replace hE:=hE.mono hG_hfb
  replace hU:=hU.mono hG_hfb
  replace hfs:=hfs.mono hG_hfb
  refine Zz results33 (Rb 0 hs rfl rF) ?_
  exact ⟨_,[],hs.done,rfl,vs,vb,rfl,by rw [show k.toNat % 14=6 from by omega];exact pgR_of (p:=smallP 6) hE hU hfs hfb rfl rfl (fun e=>by cases e) (fun e=>by cases e)⟩
 refine Wp 5 [0] hs rfl<|Zy hs (Yc rfl (fun h63=>?_) fun h63=>?_)
 ·
  refine Wp 5 [0] hs rfl<|Zy hs (Y_build zeroValue114 rfl PL114 rfl (cs:=[_,_,_,_,_,_,_,_,_,_,_,_,_,_,_,_,_,_,_,_,_,_,_,_,_,_,_,_,_,_,_,_,_]) rfl<|Wp 1 [3] hs rfl<|O_s (S_litK hs underlying68 sizeOf114 zeroValue114 kR kR kR rfl (es:=[[_,_,_,_,_,_,_,_,_,_,_,_,_,_,_,_,_,_,_,_,_,_,_,_,_,_,_,_,_,_,_,_,_],[_,_,_,_,_,_,_,_,_,_,_,_,_,_,_,_,_,_,_,_,_,_,_,_,_,_,_,_,_,_,_,_,_]]) rfl rfl fun v19 _ hs shl=>?_))
  obtain ⟨bl66,rfl⟩:=shl
  refine O_s (Sc (rlin_ok (b:=bl66) (n:=2) (css:=[[Vi 4,Vi 0,Vi 1,Vi 0,Vi 0,Vi 0,Vi 1,Vn,Vf,Vi 0,Vn,Vn,u64V 0,u64V 0,u64V 0,u64V 0,Vi 0,Vi 0,Vi 0,Vi 0,Vf,Vn,Vn,Vi 0,Vf,Vi 0,Vi 0,Vi 0,Vi 0,Vn,.string ⟨[].toArray⟩,Vi 0,Vi 0],[Vi 13,Vi 1,Vi 0,Vi 0,Vi 0,Vi 0,Vi 0,Vn,Vf,Vi 0,Vn,Vn,u64V 0,u64V 0,u64V 0,u64V 0,Vi 0,Vi 0,Vi 0,Vi 0,Vf,Vn,Vn,Vi 0,Vf,Vi 0,Vi 0,Vi 0,Vi 0,Vn,.string ⟨#[120]⟩,Vi 0,Vi 0]]) (ss:=[{ zeroS 4 with y:=1,i:=0,j:=1,thn:=0,els:=0 },{ zeroS 13 with name:=[120],x:=1,thn:=0,els:=0 }]) rfl dC dC ⟨⟨StR.plain (s:={ zeroS 4 with y:=1,i:=0,j:=1,thn:=0,els:=0 }) rfl rfl rfl rfl rfl rfl,StR.plain (s:={ zeroS 13 with name:=[120],x:=1,thn:=0,els:=0 }) rfl rfl rfl rfl rfl rfl,trivial⟩,allLen rfl⟩) hs rfl fun v20 G' H' _ hR hG67 hs=>?_)
  obtain ⟨vs,vb,es,u,rfl,hE,hU,rfl⟩:=hR
  replace hs:=hs.n rfl
  refine O_n (Sg hs.f7 rfl Z15 fun _ hs=>Wp 1 [0] hs rfl<|T_ret ?_)
  have hs:=hs.f1
  obtain ⟨_,hG_hfs,hfs,hs⟩:=hs.fixRow noM
  replace hE:=hE.mono hG_hfs
  replace hU:=hU.mono hG_hfs
  have hs:=hs.f1
  obtain ⟨_,hG_hfb,hfb,hs⟩:=hs.fixRow noM
  replace hE:=hE.mono hG_hfb
  replace hU:=hU.mono hG_hfb
  replace hfs:=hfs.mono hG_hfb
  refine Zz results33 (Rb 0 hs rfl rF) ?_
  exact ⟨_,[],hs.done,rfl,vs,vb,rfl,by rw [show k.toNat % 14=7 from by omega];exact pgR_of (p:=smallP 7) hE (lrow1 hU) hfs hfb rfl rfl (fun e=>by cases e) (fun e=>by cases e)⟩
 refine Wp 5 [0] hs rfl<|Zy hs (Yc rfl (fun h69=>?_) fun h69=>?_)
 ·
  refine Wp 5 [0] hs rfl<|Zy hs (Y_build zeroValue114 rfl PL114 rfl (cs:=[_,_,_,_,_,_,_,_,_,_,_,_,_,_,_,_,_,_,_,_,_,_,_,_,_,_,_,_,_,_,_,_,_]) rfl<|Wp 1 [3] hs rfl<|O_s (S_litK hs underlying68 sizeOf114 zeroValue114 kR kR kR rfl (es:=[[_,_,_,_,_,_,_,_,_,_,_,_,_,_,_,_,_,_,_,_,_,_,_,_,_,_,_,_,_,_,_,_,_],[_,_,_,_,_,_,_,_,_,_,_,_,_,_,_,_,_,_,_,_,_,_,_,_,_,_,_,_,_,_,_,_,_]]) rfl rfl fun v21 _ hs shl=>?_))
  obtain ⟨bl72,rfl⟩:=shl
  refine O_s (Sc (rlin_ok (b:=bl72) (n:=2) (css:=[[Vi 4,Vi 0,Vi 1,Vi 0,Vi 0,Vi 1,Vi (-1),Vn,Vf,Vi 0,Vn,Vn,u64V 0,u64V 0,u64V 0,u64V 0,Vi 0,Vi 0,Vi 0,Vi 0,Vf,Vn,Vn,Vi 0,Vf,Vi 0,Vi 0,Vi 0,Vi 0,Vn,.string ⟨[].toArray⟩,Vi 0,Vi 0],[Vi 13,Vi 1,Vi 0,Vi 0,Vi 0,Vi 0,Vi 0,Vn,Vf,Vi 0,Vn,Vn,u64V 0,u64V 0,u64V 0,u64V 0,Vi 0,Vi 0,Vi 0,Vi 0,Vf,Vn,Vn,Vi 0,Vf,Vi 0,Vi 0,Vi 0,Vi 0,Vn,.string ⟨#[120]⟩,Vi 0,Vi 0]]) (ss:=[{ zeroS 4 with y:=1,i:=1,j:=-1,thn:=0,els:=0 },{ zeroS 13 with name:=[120],x:=1,thn:=0,els:=0 }]) rfl dC dC ⟨⟨StR.plain (s:={ zeroS 4 with y:=1,i:=1,j:=-1,thn:=0,els:=0 }) rfl rfl rfl rfl rfl rfl,StR.plain (s:={ zeroS 13 with name:=[120],x:=1,thn:=0,els:=0 }) rfl rfl rfl rfl rfl rfl,trivial⟩,allLen rfl⟩) hs rfl fun v22 G' H' _ hR hG73 hs=>?_)
  obtain ⟨vs,vb,es,u,rfl,hE,hU,rfl⟩:=hR
  replace hs:=hs.n rfl
  refine O_n (Sg hs.f7 rfl Z15 fun _ hs=>Wp 1 [1,2] hs rfl<|T_ret ?_)
  have hs:=hs.f1
  obtain ⟨_,hG_hfs,hfs,hs⟩:=hs.fixRow noM
  replace hE:=hE.mono hG_hfs
  replace hU:=hU.mono hG_hfs
  have hs:=hs.f1
  obtain ⟨_,hG_hfb,hfb,hs⟩:=hs.fixRow noM
  replace hE:=hE.mono hG_hfb
  replace hU:=hU.mono hG_hfb
  replace hfs:=hfs.mono hG_hfb
  refine Zz results33 (Rb 0 hs rfl rF) ?_
  exact ⟨_,[],hs.done,rfl,vs,vb,rfl,by rw [show k.toNat % 14=8 from by omega];exact pgR_of (p:=smallP 8) hE (lrow1 hU) hfs hfb rfl rfl (fun e=>by cases e) (fun e=>by cases e)⟩
 refine Wp 5 [0] hs rfl<|Zy hs (Yc rfl (fun h75=>?_) fun h75=>?_)
 ·
  refine Wp 5 [0] hs rfl<|O_s (Sc (rloo_ok) hs rfl fun v23 G' H' _ hR hG76 hs=>?_)
  obtain ⟨vs,vb,es,us,rfl,hE,hU,rfl⟩:=hR
  replace hs:=hs.n rfl
  refine O_n (Sg hs.f7 rfl Z15 fun _ hs=>Wp 1 [1,2] hs rfl<|T_ret ?_)
  have hs:=hs.f1
  obtain ⟨_,hG_hfs,hfs,hs⟩:=hs.fixRow noM
  replace hE:=hE.mono hG_hfs
  replace hU:=hU.mono hG_hfs
  have hs:=hs.f1
  obtain ⟨_,hG_hfb,hfb,hs⟩:=hs.fixRow noM
  replace hE:=hE.mono hG_hfb
  replace hU:=hU.mono hG_hfb
  replace hfs:=hfs.mono hG_hfb
  refine Zz results33 (Rb 0 hs rfl rF) ?_
  exact ⟨_,[],hs.done,rfl,vs,vb,rfl,by rw [show k.toNat % 14=9 from by omega];exact pgR_of (p:=smallP 9) hE hU hfs hfb rfl rfl (fun e=>by cases e) (fun e=>by cases e)⟩
 refine Wp 5 [0] hs rfl<|Zy hs (Yc rfl (fun h78=>?_) fun h78=>?_)
 ·
  refine Wp 4 [5,2,3,4,16,77] hs rfl<|T_drawS [0,1,2,3,4,5,6,7,8] hs kR ?_
  replace hs:=hs.drew
  refine Xr [7] [3] hs rfl<|A_two 0 5 rfl rfl kR rfl rfl ?_ ?_
  ·
   have hle:=hs.le
   refine S_call (H1:=[]) hs rfl func62 rfl kR (rexp_ok) fun v24 G' H' _ hR hG79 hs=>?_
   obtain ⟨rfl,h79⟩:=hR
   replace hs:=hs.n rfl
   obtain ⟨A79,c79,rfl⟩:=LstR.slice h79
   refine A_moreS hs hle hG79 (List.Sublist.refl _)<|Xt 1 hs rfl (Y_build zeroValue122 rfl PL122 rfl (cs:=[_,_]) rfl<|A_two 2 5 rfl rfl kR rfl rfl ?_ ?_)
   ·
    have hle:=hs.le
    refine S_call (H1:=[]) hs rfl func64 rfl kR (rany_ok) fun v25 G' H' _ hR hG81 hs=>?_
    obtain ⟨rfl,h81⟩:=hR
    replace hs:=hs.n rfl
    replace h79:=h79.mono hG81
    obtain ⟨A81,c81,rfl⟩:=LstR.slice h81
    refine A_moreS hs hle hG81 (List.Sublist.refl _)<|Xt 3 hs rfl (Y_build zeroValue122 rfl PL122 rfl (cs:=[_,_]) rfl<|A_two 4 5 rfl rfl kR rfl rfl ?_ ?_)
    ·
     have hle:=hs.le
     refine S_lit hs underlying108 sizeOf122 zeroValue122 rfl rfl dC dC rfl (cs:=[_,_,_,_]) rfl rfl fun v26 _ hs _=>?_
     have hsN:=hs.fixRow noM
     clear hs
     obtain ⟨_,hG83,hl83,hs⟩:=hsN
     replace h79:=h79.mono hG83
     replace h81:=h81.mono hG83
     obtain ⟨A83,c83,rfl,_⟩:=id hl83
     refine A_moreS hs hle hG83 (List.Sublist.refl _) ?_
     have hle:=hs.le
     refine Xo 5 rfl (Se hs zeroValue3 rfl fun v27 _ hs _=>?_)
     have hsN:=hs.fixRow noM
     clear hs
     obtain ⟨_,hG84,hl84,hs⟩:=hsN
     replace h79:=h79.mono hG84
     replace h81:=h81.mono hG84
     replace hl83:=hl83.mono hG84
     obtain ⟨A84,c84,rfl,_⟩:=id hl84
     refine A_moreS hs hle hG84 (List.Sublist.refl _)<|Xt 6 hs rfl (Y_build zeroValue114 rfl PL114 rfl (cs:=[_,_,_,_,_,_,_,_,_,_,_,_,_,_,_,_,_,_,_,_,_,_,_,_,_,_,_,_,_,_,_,_,_]) rfl ?_)
     have hle:=hs.le
     refine Xo 8 rfl (S_litK hs underlying68 sizeOf114 zeroValue114 kR kR kR rfl (es:=[[_,_,_,_,_,_,_,_,_,_,_,_,_,_,_,_,_,_,_,_,_,_,_,_,_,_,_,_,_,_,_,_,_],[_,_,_,_,_,_,_,_,_,_,_,_,_,_,_,_,_,_,_,_,_,_,_,_,_,_,_,_,_,_,_,_,_]]) rfl rfl fun v28 _ hs shl=>?_)
     obtain ⟨bl87,rfl⟩:=shl
     refine A_moreS hs hle (Ghost.le.refl _) (List.sublist_cons_self _ _)<|Xa 9 rfl (Sc (rgrd_ok (b:=bl87) (n:=2) (css:=[[Vi 9,Vi 0,Vi 0,Vi 0,Vi 0,Vi 0,Vi 0,Vn,Vf,Vi 0,Vn,Vn,u64V 0,u64V 0,u64V 0,u64V 0,Vi 0,Vi 0,Vi 0,Vi 0,Vf,.slice A83 2 c83,.slice A84 2 c84,Vi 0,Vf,Vi 0,Vi 0,Vi 0,Vi 0,Vn,.string ⟨[].toArray⟩,Vi 0,Vi 0],[Vi 13,Vi 1,Vi 0,Vi 0,Vi 0,Vi 0,Vi 0,Vn,Vf,Vi 0,Vn,Vn,u64V 0,u64V 0,u64V 0,u64V 0,Vi 0,Vi 0,Vi 0,Vi 0,Vf,Vn,Vn,Vi 0,Vf,Vi 0,Vi 0,Vi 0,Vi 0,Vn,.string ⟨#[120]⟩,Vi 0,Vi 0]]) (ss:=[{ zeroS 9 with p:=[⟨starX clA,false⟩,⟨starX clAB,false⟩],ys:=[1,2],thn:=0,els:=0 },{ zeroS 13 with name:=[120],x:=1,thn:=0,els:=0 }]) rfl dC dC ⟨⟨⟨_,_,_,_,_,_,rfl,⟨Sl.nil _ _,fun _=>rfl⟩,⟨Sl.nil _ _,fun _=>rfl⟩,⟨Sl.nil _ _,fun _=>rfl⟩,⟨pat_two hl83 h79 h81,fun e=>by cases e⟩,⟨hl84,fun e=>by cases e⟩,⟨LstR.nil,fun _=>rfl⟩⟩,StR.plain (s:={ zeroS 13 with name:=[120],x:=1,thn:=0,els:=0 }) rfl rfl rfl rfl rfl rfl,trivial⟩,allLen rfl⟩) hs rfl fun v29 G' H' _ hR hG88 hs=>?_)
     obtain ⟨vs,vb,es,us,rfl,hE,hU,rfl⟩:=hR
     replace hs:=hs.n rfl
     refine Xn 10 rfl (Sg hs.f7 rfl Z15 fun _ hs=>Xe (Zk [2] rfl<|T_ret ?_))
     have hs:=hs.f1
     obtain ⟨_,hG_hfs,hfs,hs⟩:=hs.fixRow noM
     replace hE:=hE.mono hG_hfs
     replace hU:=hU.mono hG_hfs
     have hs:=hs.f1
     obtain ⟨_,hG_hfb,hfb,hs⟩:=hs.fixRow noM
     replace hE:=hE.mono hG_hfb
     replace hU:=hU.mono hG_hfb
     replace hfs:=hfs.mono hG_hfb
     refine Zz results33 (Rb 0 hs rfl rF) ?_
     exact ⟨_,[],hs.done,rfl,vs,vb,rfl,by rw [show k.toNat % 14=10 from by omega];exact pgR_of (p:=smallP 10) hE hU hfs hfb rfl rfl (fun e=>by cases e) (fun e=>by cases e)⟩
    have hle:=hs.le
    refine S_lit hs underlying45 sizeOf3 zeroValue3 rfl rfl dC dC rfl (cs:=[_,_]) rfl rfl fun v30 _ hs _=>?_
    have hsN:=hs.fixRow noM
    clear hs
    obtain ⟨_,hG84,hl84,hs⟩:=hsN
    replace h79:=h79.mono hG84
    replace h81:=h81.mono hG84
    obtain ⟨A84,c84,rfl,_⟩:=id hl84
    refine A_moreS hs hle hG84 (List.Sublist.refl _) ?_
    have hle:=hs.le
    refine Xo 4 rfl (Se hs zeroValue122 rfl fun v31 _ hs _=>?_)
    have hsN:=hs.fixRow noM
    clear hs
    obtain ⟨_,hG83,hl83,hs⟩:=hsN
    replace h79:=h79.mono hG83
    replace h81:=h81.mono hG83
    replace hl84:=hl84.mono hG83
    obtain ⟨A83,c83,rfl,_⟩:=id hl83
    refine A_moreS hs hle hG83 (List.Sublist.refl _)<|Xt 6 hs rfl (Y_build zeroValue114 rfl PL114 rfl (cs:=[_,_,_,_,_,_,_,_,_,_,_,_,_,_,_,_,_,_,_,_,_,_,_,_,_,_,_,_,_,_,_,_,_]) rfl ?_)
    have hle:=hs.le
    refine Xo 8 rfl (S_litK hs underlying68 sizeOf114 zeroValue114 kR kR kR rfl (es:=[[_,_,_,_,_,_,_,_,_,_,_,_,_,_,_,_,_,_,_,_,_,_,_,_,_,_,_,_,_,_,_,_,_],[_,_,_,_,_,_,_,_,_,_,_,_,_,_,_,_,_,_,_,_,_,_,_,_,_,_,_,_,_,_,_,_,_]]) rfl rfl fun v32 _ hs shl=>?_)
    obtain ⟨bl87,rfl⟩:=shl
    refine A_moreS hs hle (Ghost.le.refl _) (List.sublist_cons_self _ _)<|Xa 9 rfl (Sc (rgrd_ok (b:=bl87) (n:=2) (css:=[[Vi 9,Vi 0,Vi 0,Vi 0,Vi 0,Vi 0,Vi 0,Vn,Vf,Vi 0,Vn,Vn,u64V 0,u64V 0,u64V 0,u64V 0,Vi 0,Vi 0,Vi 0,Vi 0,Vf,.slice A83 2 c83,.slice A84 2 c84,Vi 0,Vf,Vi 0,Vi 0,Vi 0,Vi 0,Vn,.string ⟨[].toArray⟩,Vi 0,Vi 0],[Vi 13,Vi 1,Vi 0,Vi 0,Vi 0,Vi 0,Vi 0,Vn,Vf,Vi 0,Vn,Vn,u64V 0,u64V 0,u64V 0,u64V 0,Vi 0,Vi 0,Vi 0,Vi 0,Vf,Vn,Vn,Vi 0,Vf,Vi 0,Vi 0,Vi 0,Vi 0,Vn,.string ⟨#[120]⟩,Vi 0,Vi 0]]) (ss:=[{ zeroS 9 with p:=[⟨starX clA,false⟩,⟨starX clAB,false⟩],ys:=[1,2],thn:=0,els:=0 },{ zeroS 13 with name:=[120],x:=1,thn:=0,els:=0 }]) rfl dC dC ⟨⟨⟨_,_,_,_,_,_,rfl,⟨Sl.nil _ _,fun _=>rfl⟩,⟨Sl.nil _ _,fun _=>rfl⟩,⟨Sl.nil _ _,fun _=>rfl⟩,⟨pat_two hl83 h79 h81,fun e=>by cases e⟩,⟨hl84,fun e=>by cases e⟩,⟨LstR.nil,fun _=>rfl⟩⟩,StR.plain (s:={ zeroS 13 with name:=[120],x:=1,thn:=0,els:=0 }) rfl rfl rfl rfl rfl rfl,trivial⟩,allLen rfl⟩) hs rfl fun v33 G' H' _ hR hG88 hs=>?_)
    obtain ⟨vs,vb,es,us,rfl,hE,hU,rfl⟩:=hR
    replace hs:=hs.n rfl
    refine Xn 10 rfl (Sg hs.f7 rfl Z15 fun _ hs=>Xe (Zk [2] rfl<|T_ret ?_))
    have hs:=hs.f1
    obtain ⟨_,hG_hfs,hfs,hs⟩:=hs.fixRow noM
    replace hE:=hE.mono hG_hfs
    replace hU:=hU.mono hG_hfs
    have hs:=hs.f1
    obtain ⟨_,hG_hfb,hfb,hs⟩:=hs.fixRow noM
    replace hE:=hE.mono hG_hfb
    replace hU:=hU.mono hG_hfb
    replace hfs:=hfs.mono hG_hfb
    refine Zz results33 (Rb 0 hs rfl rF) ?_
    exact ⟨_,[],hs.done,rfl,vs,vb,rfl,by rw [show k.toNat % 14=10 from by omega];exact pgR_of (p:=smallP 10) hE hU hfs hfb rfl rfl (fun e=>by cases e) (fun e=>by cases e)⟩
   have hle:=hs.le
   refine S_lit hs underlying45 sizeOf3 zeroValue3 rfl rfl dC dC rfl (cs:=[_,_]) rfl rfl fun v34 _ hs _=>?_
   have hsN:=hs.fixRow noM
   clear hs
   obtain ⟨_,hG84,hl84,hs⟩:=hsN
   replace h79:=h79.mono hG84
   obtain ⟨A84,c84,rfl,_⟩:=id hl84
   refine A_moreS hs hle hG84 (List.Sublist.refl _) ?_
   have hle:=hs.le
   refine Xo 2 rfl (Sc (rany_ok) hs rfl fun v35 G' H' _ hR hG81 hs=>?_)
   obtain ⟨rfl,h81⟩:=hR
   replace hs:=hs.n rfl
   replace h79:=h79.mono hG81
   replace hl84:=hl84.mono hG81
   obtain ⟨A81,c81,rfl⟩:=LstR.slice h81
   refine A_moreS hs hle hG81 (List.Sublist.refl _)<|Xt 3 hs rfl (Y_build zeroValue122 rfl PL122 rfl (cs:=[_,_]) rfl ?_)
   have hle:=hs.le
   refine Xo 4 rfl (Se hs zeroValue122 rfl fun v36 _ hs _=>?_)
   have hsN:=hs.fixRow noM
   clear hs
   obtain ⟨_,hG83,hl83,hs⟩:=hsN
   replace h79:=h79.mono hG83
   replace hl84:=hl84.mono hG83
   replace h81:=h81.mono hG83
   obtain ⟨A83,c83,rfl,_⟩:=id hl83
   refine A_moreS hs hle hG83 (List.Sublist.refl _)<|Xt 6 hs rfl (Y_build zeroValue114 rfl PL114 rfl (cs:=[_,_,_,_,_,_,_,_,_,_,_,_,_,_,_,_,_,_,_,_,_,_,_,_,_,_,_,_,_,_,_,_,_]) rfl ?_)
   have hle:=hs.le
   refine Xo 8 rfl (S_litK hs underlying68 sizeOf114 zeroValue114 kR kR kR rfl (es:=[[_,_,_,_,_,_,_,_,_,_,_,_,_,_,_,_,_,_,_,_,_,_,_,_,_,_,_,_,_,_,_,_,_],[_,_,_,_,_,_,_,_,_,_,_,_,_,_,_,_,_,_,_,_,_,_,_,_,_,_,_,_,_,_,_,_,_]]) rfl rfl fun v37 _ hs shl=>?_)
   obtain ⟨bl87,rfl⟩:=shl
   refine A_moreS hs hle (Ghost.le.refl _) (List.sublist_cons_self _ _)<|Xa 9 rfl (Sc (rgrd_ok (b:=bl87) (n:=2) (css:=[[Vi 9,Vi 0,Vi 0,Vi 0,Vi 0,Vi 0,Vi 0,Vn,Vf,Vi 0,Vn,Vn,u64V 0,u64V 0,u64V 0,u64V 0,Vi 0,Vi 0,Vi 0,Vi 0,Vf,.slice A83 2 c83,.slice A84 2 c84,Vi 0,Vf,Vi 0,Vi 0,Vi 0,Vi 0,Vn,.string ⟨[].toArray⟩,Vi 0,Vi 0],[Vi 13,Vi 1,Vi 0,Vi 0,Vi 0,Vi 0,Vi 0,Vn,Vf,Vi 0,Vn,Vn,u64V 0,u64V 0,u64V 0,u64V 0,Vi 0,Vi 0,Vi 0,Vi 0,Vf,Vn,Vn,Vi 0,Vf,Vi 0,Vi 0,Vi 0,Vi 0,Vn,.string ⟨#[120]⟩,Vi 0,Vi 0]]) (ss:=[{ zeroS 9 with p:=[⟨starX clA,false⟩,⟨starX clAB,false⟩],ys:=[1,2],thn:=0,els:=0 },{ zeroS 13 with name:=[120],x:=1,thn:=0,els:=0 }]) rfl dC dC ⟨⟨⟨_,_,_,_,_,_,rfl,⟨Sl.nil _ _,fun _=>rfl⟩,⟨Sl.nil _ _,fun _=>rfl⟩,⟨Sl.nil _ _,fun _=>rfl⟩,⟨pat_two hl83 h79 h81,fun e=>by cases e⟩,⟨hl84,fun e=>by cases e⟩,⟨LstR.nil,fun _=>rfl⟩⟩,StR.plain (s:={ zeroS 13 with name:=[120],x:=1,thn:=0,els:=0 }) rfl rfl rfl rfl rfl rfl,trivial⟩,allLen rfl⟩) hs rfl fun v38 G' H' _ hR hG88 hs=>?_)
   obtain ⟨vs,vb,es,us,rfl,hE,hU,rfl⟩:=hR
   replace hs:=hs.n rfl
   refine Xn 10 rfl (Sg hs.f7 rfl Z15 fun _ hs=>Xe (Zk [2] rfl<|T_ret ?_))
   have hs:=hs.f1
   obtain ⟨_,hG_hfs,hfs,hs⟩:=hs.fixRow noM
   replace hE:=hE.mono hG_hfs
   replace hU:=hU.mono hG_hfs
   have hs:=hs.f1
   obtain ⟨_,hG_hfb,hfb,hs⟩:=hs.fixRow noM
   replace hE:=hE.mono hG_hfb
   replace hU:=hU.mono hG_hfb
   replace hfs:=hfs.mono hG_hfb
   refine Zz results33 (Rb 0 hs rfl rF) ?_
   exact ⟨_,[],hs.done,rfl,vs,vb,rfl,by rw [show k.toNat % 14=10 from by omega];exact pgR_of (p:=smallP 10) hE hU hfs hfb rfl rfl (fun e=>by cases e) (fun e=>by cases e)⟩
  have hle:=hs.le
  refine S_lit hs underlying45 sizeOf3 zeroValue3 rfl rfl dC dC rfl (cs:=[_,_]) rfl rfl fun v39 _ hs _=>?_
  have hsN:=hs.fixRow noM
  clear hs
  obtain ⟨_,hG84,hl84,hs⟩:=hsN
  obtain ⟨A84,c84,rfl,_⟩:=id hl84
  refine A_moreS hs hle hG84 (List.Sublist.refl _) ?_
  have hle:=hs.le
  refine Xo 0 rfl (Sc (rexp_ok) hs rfl fun v40 G' H' _ hR hG79 hs=>?_)
  obtain ⟨rfl,h79⟩:=hR
  replace hs:=hs.n rfl
  replace hl84:=hl84.mono hG79
  obtain ⟨A79,c79,rfl⟩:=LstR.slice h79
  refine A_moreS hs hle hG79 (List.Sublist.refl _)<|Xt 1 hs rfl (Y_build zeroValue122 rfl PL122 rfl (cs:=[_,_]) rfl ?_)
  have hle:=hs.le
  refine Xo 2 rfl (Sc (rany_ok) hs rfl fun v41 G' H' _ hR hG81 hs=>?_)
  obtain ⟨rfl,h81⟩:=hR
  replace hs:=hs.n rfl
  replace hl84:=hl84.mono hG81
  replace h79:=h79.mono hG81
  obtain ⟨A81,c81,rfl⟩:=LstR.slice h81
  refine A_moreS hs hle hG81 (List.Sublist.refl _)<|Xt 3 hs rfl (Y_build zeroValue122 rfl PL122 rfl (cs:=[_,_]) rfl ?_)
  have hle:=hs.le
  refine Xo 4 rfl (Se hs zeroValue122 rfl fun v42 _ hs _=>?_)
  have hsN:=hs.fixRow noM
  clear hs
  obtain ⟨_,hG83,hl83,hs⟩:=hsN
  replace hl84:=hl84.mono hG83
  replace h79:=h79.mono hG83
  replace h81:=h81.mono hG83
  obtain ⟨A83,c83,rfl,_⟩:=id hl83
  refine A_moreS hs hle hG83 (List.Sublist.refl _)<|Xt 6 hs rfl (Y_build zeroValue114 rfl PL114 rfl (cs:=[_,_,_,_,_,_,_,_,_,_,_,_,_,_,_,_,_,_,_,_,_,_,_,_,_,_,_,_,_,_,_,_,_]) rfl ?_)
  have hle:=hs.le
  refine Xo 8 rfl (S_litK hs underlying68 sizeOf114 zeroValue114 kR kR kR rfl (es:=[[_,_,_,_,_,_,_,_,_,_,_,_,_,_,_,_,_,_,_,_,_,_,_,_,_,_,_,_,_,_,_,_,_],[_,_,_,_,_,_,_,_,_,_,_,_,_,_,_,_,_,_,_,_,_,_,_,_,_,_,_,_,_,_,_,_,_]]) rfl rfl fun v43 _ hs shl=>?_)
  obtain ⟨bl87,rfl⟩:=shl
  refine A_moreS hs hle (Ghost.le.refl _) (List.sublist_cons_self _ _)<|Xa 9 rfl (Sc (rgrd_ok (b:=bl87) (n:=2) (css:=[[Vi 9,Vi 0,Vi 0,Vi 0,Vi 0,Vi 0,Vi 0,Vn,Vf,Vi 0,Vn,Vn,u64V 0,u64V 0,u64V 0,u64V 0,Vi 0,Vi 0,Vi 0,Vi 0,Vf,.slice A83 2 c83,.slice A84 2 c84,Vi 0,Vf,Vi 0,Vi 0,Vi 0,Vi 0,Vn,.string ⟨[].toArray⟩,Vi 0,Vi 0],[Vi 13,Vi 1,Vi 0,Vi 0,Vi 0,Vi 0,Vi 0,Vn,Vf,Vi 0,Vn,Vn,u64V 0,u64V 0,u64V 0,u64V 0,Vi 0,Vi 0,Vi 0,Vi 0,Vf,Vn,Vn,Vi 0,Vf,Vi 0,Vi 0,Vi 0,Vi 0,Vn,.string ⟨#[120]⟩,Vi 0,Vi 0]]) (ss:=[{ zeroS 9 with p:=[⟨starX clA,false⟩,⟨starX clAB,false⟩],ys:=[1,2],thn:=0,els:=0 },{ zeroS 13 with name:=[120],x:=1,thn:=0,els:=0 }]) rfl dC dC ⟨⟨⟨_,_,_,_,_,_,rfl,⟨Sl.nil _ _,fun _=>rfl⟩,⟨Sl.nil _ _,fun _=>rfl⟩,⟨Sl.nil _ _,fun _=>rfl⟩,⟨pat_two hl83 h79 h81,fun e=>by cases e⟩,⟨hl84,fun e=>by cases e⟩,⟨LstR.nil,fun _=>rfl⟩⟩,StR.plain (s:={ zeroS 13 with name:=[120],x:=1,thn:=0,els:=0 }) rfl rfl rfl rfl rfl rfl,trivial⟩,allLen rfl⟩) hs rfl fun v44 G' H' _ hR hG88 hs=>?_)
  obtain ⟨vs,vb,es,us,rfl,hE,hU,rfl⟩:=hR
  replace hs:=hs.n rfl
  refine Xn 10 rfl (Sg hs.f7 rfl Z15 fun _ hs=>Xe (Zk [2] rfl<|T_ret ?_))
  have hs:=hs.f1
  obtain ⟨_,hG_hfs,hfs,hs⟩:=hs.fixRow noM
  replace hE:=hE.mono hG_hfs
  replace hU:=hU.mono hG_hfs
  have hs:=hs.f1
  obtain ⟨_,hG_hfb,hfb,hs⟩:=hs.fixRow noM
  replace hE:=hE.mono hG_hfb
  replace hU:=hU.mono hG_hfb
  replace hfs:=hfs.mono hG_hfb
  refine Zz results33 (Rb 0 hs rfl rF) ?_
  exact ⟨_,[],hs.done,rfl,vs,vb,rfl,by rw [show k.toNat % 14=10 from by omega];exact pgR_of (p:=smallP 10) hE hU hfs hfb rfl rfl (fun e=>by cases e) (fun e=>by cases e)⟩
 refine Wp 5 [5,2,3,4,16,77] hs rfl<|Zy hs (Yc rfl (fun h90=>?_) fun h90=>?_)
 ·
  refine Wp 4 [0] hs rfl<|T_drawS [0,1,2,3,4,5,6,7,8,9] hs kR ?_
  replace hs:=hs.drew
  refine Xr [8] [3] hs rfl<|A_two 0 6 rfl rfl kR rfl rfl ?_ ?_
  ·
   have hle:=hs.le
   refine S_call (H1:=[]) hs rfl func64 rfl kR (rany_ok) fun v45 G' H' _ hR hG91 hs=>?_
   obtain ⟨rfl,h91⟩:=hR
   replace hs:=hs.n rfl
   obtain ⟨A91,c91,rfl⟩:=LstR.slice h91
   refine A_moreS hs hle hG91 (List.Sublist.refl _)<|Xt 1 hs rfl (Y_build zeroValue122 rfl PL122 rfl (cs:=[_,_]) rfl<|A_two 2 6 rfl rfl kR rfl rfl ?_ ?_)
   ·
    have hle:=hs.le
    refine S_call (H1:=[]) hs rfl func59 rfl kR (lett2_ok) fun v46 G' H' _ hR hG93 hs=>?_
    obtain ⟨rfl,rfl⟩:=hR
    replace hs:=hs.n rfl
    replace h91:=h91.mono hG93
    refine A_moreS hs hle hG93 (List.Sublist.refl _)<|A_two 3 6 rfl rfl kR rfl rfl ?_ ?_
    ·
     have hle:=hs.le
     refine S_call (H1:=[]) hs rfl func65 rfl kR (rsom_ok clB_ok) fun v47 G' H' _ hR hG94 hs=>?_
     obtain ⟨rfl,h94⟩:=hR
     replace hs:=hs.n rfl
     replace h91:=h91.mono hG94
     obtain ⟨A94,c94,rfl⟩:=LstR.slice h94
     refine A_moreS hs hle hG94 (List.Sublist.refl _)<|Xt 4 hs rfl (Y_build zeroValue122 rfl PL122 rfl (cs:=[_,_]) rfl<|A_two 5 6 rfl rfl kR rfl rfl ?_ ?_)
     ·
      have hle:=hs.le
      refine S_lit hs underlying108 sizeOf122 zeroValue122 rfl rfl dC dC rfl (cs:=[_,_,_,_]) rfl rfl fun v48 _ hs _=>?_
      have hsN:=hs.fixRow noM
      clear hs
      obtain ⟨_,hG96,hl96,hs⟩:=hsN
      replace h91:=h91.mono hG96
      replace h94:=h94.mono hG96
      obtain ⟨A96,c96,rfl,_⟩:=id hl96
      refine A_moreS hs hle hG96 (List.Sublist.refl _) ?_
      have hle:=hs.le
      refine Xo 6 rfl (Se hs zeroValue3 rfl fun v49 _ hs _=>?_)
      have hsN:=hs.fixRow noM
      clear hs
      obtain ⟨_,hG97,hl97,hs⟩:=hsN
      replace h91:=h91.mono hG97
      replace h94:=h94.mono hG97
      replace hl96:=hl96.mono hG97
      obtain ⟨A97,c97,rfl,_⟩:=id hl97
      refine A_moreS hs hle hG97 (List.Sublist.refl _)<|Xt 7 hs rfl (Y_build zeroValue114 rfl PL114 rfl (cs:=[_,_,_,_,_,_,_,_,_,_,_,_,_,_,_,_,_,_,_,_,_,_,_,_,_,_,_,_,_,_,_,_,_]) rfl ?_)
      have hle:=hs.le
      refine Xo 9 rfl (S_litK hs underlying68 sizeOf114 zeroValue114 kR kR kR rfl (es:=[[_,_,_,_,_,_,_,_,_,_,_,_,_,_,_,_,_,_,_,_,_,_,_,_,_,_,_,_,_,_,_,_,_],[_,_,_,_,_,_,_,_,_,_,_,_,_,_,_,_,_,_,_,_,_,_,_,_,_,_,_,_,_,_,_,_,_]]) rfl rfl fun v50 _ hs shl=>?_)
      obtain ⟨bl100,rfl⟩:=shl
      refine A_moreS hs hle (Ghost.le.refl _) (List.sublist_cons_self _ _)<|Xa 10 rfl (Sc (rgrd_ok (b:=bl100) (n:=2) (css:=[[Vi 9,Vi 0,Vi 0,Vi 0,Vi 0,Vi 0,Vi 0,Vn,Vf,Vi 0,Vn,Vn,u64V 0,u64V 0,u64V 0,u64V 0,Vi 0,Vi 0,Vi 0,Vi 0,Vf,.slice A96 2 c96,.slice A97 2 c97,Vi 0,Vf,Vi 0,Vi 0,Vi 0,Vi 0,Vn,.string ⟨[].toArray⟩,Vi 0,Vi 0],[Vi 13,Vi 1,Vi 0,Vi 0,Vi 0,Vi 0,Vi 0,Vn,Vf,Vi 0,Vn,Vn,u64V 0,u64V 0,u64V 0,u64V 0,Vi 0,Vi 0,Vi 0,Vi 0,Vf,Vn,Vn,Vi 0,Vf,Vi 0,Vi 0,Vi 0,Vi 0,Vn,.string ⟨#[120]⟩,Vi 0,Vi 0]]) (ss:=[{ zeroS 9 with p:=[⟨starX clAB,true⟩,⟨starX clB,false⟩],ys:=[1,2],thn:=0,els:=0 },{ zeroS 13 with name:=[120],x:=1,thn:=0,els:=0 }]) rfl dC dC ⟨⟨⟨_,_,_,_,_,_,rfl,⟨Sl.nil _ _,fun _=>rfl⟩,⟨Sl.nil _ _,fun _=>rfl⟩,⟨Sl.nil _ _,fun _=>rfl⟩,⟨pat_two hl96 h91 h94,fun e=>by cases e⟩,⟨hl97,fun e=>by cases e⟩,⟨LstR.nil,fun _=>rfl⟩⟩,StR.plain (s:={ zeroS 13 with name:=[120],x:=1,thn:=0,els:=0 }) rfl rfl rfl rfl rfl rfl,trivial⟩,allLen rfl⟩) hs rfl fun v51 G' H' _ hR hG101 hs=>?_)
      obtain ⟨vs,vb,es,us,rfl,hE,hU,rfl⟩:=hR
      replace hs:=hs.n rfl
      refine Xn 11 rfl (Sg hs.f7 rfl Z15 fun _ hs=>Xe (Zk [2] rfl<|T_ret ?_))
      have hs:=hs.f1
      obtain ⟨_,hG_hfs,hfs,hs⟩:=hs.fixRow noM
      replace hE:=hE.mono hG_hfs
      replace hU:=hU.mono hG_hfs
      have hs:=hs.f1
      obtain ⟨_,hG_hfb,hfb,hs⟩:=hs.fixRow noM
      replace hE:=hE.mono hG_hfb
      replace hU:=hU.mono hG_hfb
      replace hfs:=hfs.mono hG_hfb
      refine Zz results33 (Rb 0 hs rfl rF) ?_
      exact ⟨_,[],hs.done,rfl,vs,vb,rfl,by rw [show k.toNat % 14=11 from by omega];exact pgR_of (p:=smallP 11) hE hU hfs hfb rfl rfl (fun e=>by cases e) (fun e=>by cases e)⟩
     have hle:=hs.le
     refine S_lit hs underlying45 sizeOf3 zeroValue3 rfl rfl dC dC rfl (cs:=[_,_]) rfl rfl fun v52 _ hs _=>?_
     have hsN:=hs.fixRow noM
     clear hs
     obtain ⟨_,hG97,hl97,hs⟩:=hsN
     replace h91:=h91.mono hG97
     replace h94:=h94.mono hG97
     obtain ⟨A97,c97,rfl,_⟩:=id hl97
     refine A_moreS hs hle hG97 (List.Sublist.refl _) ?_
     have hle:=hs.le
     refine Xo 5 rfl (Se hs zeroValue122 rfl fun v53 _ hs _=>?_)
     have hsN:=hs.fixRow noM
     clear hs
     obtain ⟨_,hG96,hl96,hs⟩:=hsN
     replace h91:=h91.mono hG96
     replace h94:=h94.mono hG96
     replace hl97:=hl97.mono hG96
     obtain ⟨A96,c96,rfl,_⟩:=id hl96
     refine A_moreS hs hle hG96 (List.Sublist.refl _)<|Xt 7 hs rfl (Y_build zeroValue114 rfl PL114 rfl (cs:=[_,_,_,_,_,_,_,_,_,_,_,_,_,_,_,_,_,_,_,_,_,_,_,_,_,_,_,_,_,_,_,_,_]) rfl ?_)
     have hle:=hs.le
     refine Xo 9 rfl (S_litK hs underlying68 sizeOf114 zeroValue114 kR kR kR rfl (es:=[[_,_,_,_,_,_,_,_,_,_,_,_,_,_,_,_,_,_,_,_,_,_,_,_,_,_,_,_,_,_,_,_,_],[_,_,_,_,_,_,_,_,_,_,_,_,_,_,_,_,_,_,_,_,_,_,_,_,_,_,_,_,_,_,_,_,_]]) rfl rfl fun v54 _ hs shl=>?_)
     obtain ⟨bl100,rfl⟩:=shl
     refine A_moreS hs hle (Ghost.le.refl _) (List.sublist_cons_self _ _)<|Xa 10 rfl (Sc (rgrd_ok (b:=bl100) (n:=2) (css:=[[Vi 9,Vi 0,Vi 0,Vi 0,Vi 0,Vi 0,Vi 0,Vn,Vf,Vi 0,Vn,Vn,u64V 0,u64V 0,u64V 0,u64V 0,Vi 0,Vi 0,Vi 0,Vi 0,Vf,.slice A96 2 c96,.slice A97 2 c97,Vi 0,Vf,Vi 0,Vi 0,Vi 0,Vi 0,Vn,.string ⟨[].toArray⟩,Vi 0,Vi 0],[Vi 13,Vi 1,Vi 0,Vi 0,Vi 0,Vi 0,Vi 0,Vn,Vf,Vi 0,Vn,Vn,u64V 0,u64V 0,u64V 0,u64V 0,Vi 0,Vi 0,Vi 0,Vi 0,Vf,Vn,Vn,Vi 0,Vf,Vi 0,Vi 0,Vi 0,Vi 0,Vn,.string ⟨#[120]⟩,Vi 0,Vi 0]]) (ss:=[{ zeroS 9 with p:=[⟨starX clAB,true⟩,⟨starX clB,false⟩],ys:=[1,2],thn:=0,els:=0 },{ zeroS 13 with name:=[120],x:=1,thn:=0,els:=0 }]) rfl dC dC ⟨⟨⟨_,_,_,_,_,_,rfl,⟨Sl.nil _ _,fun _=>rfl⟩,⟨Sl.nil _ _,fun _=>rfl⟩,⟨Sl.nil _ _,fun _=>rfl⟩,⟨pat_two hl96 h91 h94,fun e=>by cases e⟩,⟨hl97,fun e=>by cases e⟩,⟨LstR.nil,fun _=>rfl⟩⟩,StR.plain (s:={ zeroS 13 with name:=[120],x:=1,thn:=0,els:=0 }) rfl rfl rfl rfl rfl rfl,trivial⟩,allLen rfl⟩) hs rfl fun v55 G' H' _ hR hG101 hs=>?_)
     obtain ⟨vs,vb,es,us,rfl,hE,hU,rfl⟩:=hR
     replace hs:=hs.n rfl
     refine Xn 11 rfl (Sg hs.f7 rfl Z15 fun _ hs=>Xe (Zk [2] rfl<|T_ret ?_))
     have hs:=hs.f1
     obtain ⟨_,hG_hfs,hfs,hs⟩:=hs.fixRow noM
     replace hE:=hE.mono hG_hfs
     replace hU:=hU.mono hG_hfs
     have hs:=hs.f1
     obtain ⟨_,hG_hfb,hfb,hs⟩:=hs.fixRow noM
     replace hE:=hE.mono hG_hfb
     replace hU:=hU.mono hG_hfb
     replace hfs:=hfs.mono hG_hfb
     refine Zz results33 (Rb 0 hs rfl rF) ?_
     exact ⟨_,[],hs.done,rfl,vs,vb,rfl,by rw [show k.toNat % 14=11 from by omega];exact pgR_of (p:=smallP 11) hE hU hfs hfb rfl rfl (fun e=>by cases e) (fun e=>by cases e)⟩
    have hle:=hs.le
    refine S_lit hs underlying45 sizeOf3 zeroValue3 rfl rfl dC dC rfl (cs:=[_,_]) rfl rfl fun v56 _ hs _=>?_
    have hsN:=hs.fixRow noM
    clear hs
    obtain ⟨_,hG97,hl97,hs⟩:=hsN
    replace h91:=h91.mono hG97
    obtain ⟨A97,c97,rfl,_⟩:=id hl97
    refine A_moreS hs hle hG97 (List.Sublist.refl _) ?_
    have hle:=hs.le
    refine Xo 3 rfl (Sc (rsom_ok clB_ok) hs rfl fun v57 G' H' _ hR hG94 hs=>?_)
    obtain ⟨rfl,h94⟩:=hR
    replace hs:=hs.n rfl
    replace h91:=h91.mono hG94
    replace hl97:=hl97.mono hG94
    obtain ⟨A94,c94,rfl⟩:=LstR.slice h94
    refine A_moreS hs hle hG94 (List.Sublist.refl _)<|Xt 4 hs rfl (Y_build zeroValue122 rfl PL122 rfl (cs:=[_,_]) rfl ?_)
    have hle:=hs.le
    refine Xo 5 rfl (Se hs zeroValue122 rfl fun v58 _ hs _=>?_)
    have hsN:=hs.fixRow noM
    clear hs
    obtain ⟨_,hG96,hl96,hs⟩:=hsN
    replace h91:=h91.mono hG96
    replace hl97:=hl97.mono hG96
    replace h94:=h94.mono hG96
    obtain ⟨A96,c96,rfl,_⟩:=id hl96
    refine A_moreS hs hle hG96 (List.Sublist.refl _)<|Xt 7 hs rfl (Y_build zeroValue114 rfl PL114 rfl (cs:=[_,_,_,_,_,_,_,_,_,_,_,_,_,_,_,_,_,_,_,_,_,_,_,_,_,_,_,_,_,_,_,_,_]) rfl ?_)
    have hle:=hs.le
    refine Xo 9 rfl (S_litK hs underlying68 sizeOf114 zeroValue114 kR kR kR rfl (es:=[[_,_,_,_,_,_,_,_,_,_,_,_,_,_,_,_,_,_,_,_,_,_,_,_,_,_,_,_,_,_,_,_,_],[_,_,_,_,_,_,_,_,_,_,_,_,_,_,_,_,_,_,_,_,_,_,_,_,_,_,_,_,_,_,_,_,_]]) rfl rfl fun v59 _ hs shl=>?_)
    obtain ⟨bl100,rfl⟩:=shl
    refine A_moreS hs hle (Ghost.le.refl _) (List.sublist_cons_self _ _)<|Xa 10 rfl (Sc (rgrd_ok (b:=bl100) (n:=2) (css:=[[Vi 9,Vi 0,Vi 0,Vi 0,Vi 0,Vi 0,Vi 0,Vn,Vf,Vi 0,Vn,Vn,u64V 0,u64V 0,u64V 0,u64V 0,Vi 0,Vi 0,Vi 0,Vi 0,Vf,.slice A96 2 c96,.slice A97 2 c97,Vi 0,Vf,Vi 0,Vi 0,Vi 0,Vi 0,Vn,.string ⟨[].toArray⟩,Vi 0,Vi 0],[Vi 13,Vi 1,Vi 0,Vi 0,Vi 0,Vi 0,Vi 0,Vn,Vf,Vi 0,Vn,Vn,u64V 0,u64V 0,u64V 0,u64V 0,Vi 0,Vi 0,Vi 0,Vi 0,Vf,Vn,Vn,Vi 0,Vf,Vi 0,Vi 0,Vi 0,Vi 0,Vn,.string ⟨#[120]⟩,Vi 0,Vi 0]]) (ss:=[{ zeroS 9 with p:=[⟨starX clAB,true⟩,⟨starX clB,false⟩],ys:=[1,2],thn:=0,els:=0 },{ zeroS 13 with name:=[120],x:=1,thn:=0,els:=0 }]) rfl dC dC ⟨⟨⟨_,_,_,_,_,_,rfl,⟨Sl.nil _ _,fun _=>rfl⟩,⟨Sl.nil _ _,fun _=>rfl⟩,⟨Sl.nil _ _,fun _=>rfl⟩,⟨pat_two hl96 h91 h94,fun e=>by cases e⟩,⟨hl97,fun e=>by cases e⟩,⟨LstR.nil,fun _=>rfl⟩⟩,StR.plain (s:={ zeroS 13 with name:=[120],x:=1,thn:=0,els:=0 }) rfl rfl rfl rfl rfl rfl,trivial⟩,allLen rfl⟩) hs rfl fun v60 G' H' _ hR hG101 hs=>?_)
    obtain ⟨vs,vb,es,us,rfl,hE,hU,rfl⟩:=hR
    replace hs:=hs.n rfl
    refine Xn 11 rfl (Sg hs.f7 rfl Z15 fun _ hs=>Xe (Zk [2] rfl<|T_ret ?_))
    have hs:=hs.f1
    obtain ⟨_,hG_hfs,hfs,hs⟩:=hs.fixRow noM
    replace hE:=hE.mono hG_hfs
    replace hU:=hU.mono hG_hfs
    have hs:=hs.f1
    obtain ⟨_,hG_hfb,hfb,hs⟩:=hs.fixRow noM
    replace hE:=hE.mono hG_hfb
    replace hU:=hU.mono hG_hfb
    replace hfs:=hfs.mono hG_hfb
    refine Zz results33 (Rb 0 hs rfl rF) ?_
    exact ⟨_,[],hs.done,rfl,vs,vb,rfl,by rw [show k.toNat % 14=11 from by omega];exact pgR_of (p:=smallP 11) hE hU hfs hfb rfl rfl (fun e=>by cases e) (fun e=>by cases e)⟩
   have hle:=hs.le
   refine S_lit hs underlying45 sizeOf3 zeroValue3 rfl rfl dC dC rfl (cs:=[_,_]) rfl rfl fun v61 _ hs _=>?_
   have hsN:=hs.fixRow noM
   clear hs
   obtain ⟨_,hG97,hl97,hs⟩:=hsN
   replace h91:=h91.mono hG97
   obtain ⟨A97,c97,rfl,_⟩:=id hl97
   refine A_moreS hs hle hG97 (List.Sublist.refl _) ?_
   have hle:=hs.le
   refine Xo 2 rfl (Sc (lett2_ok) hs rfl fun v62 G' H' _ hR hG93 hs=>?_)
   obtain ⟨rfl,rfl⟩:=hR
   replace hs:=hs.n rfl
   replace h91:=h91.mono hG93
   replace hl97:=hl97.mono hG93
   refine A_moreS hs hle hG93 (List.Sublist.refl _) ?_
   have hle:=hs.le
   refine Xo 3 rfl (Sc (rsom_ok clB_ok) hs rfl fun v63 G' H' _ hR hG94 hs=>?_)
   obtain ⟨rfl,h94⟩:=hR
   replace hs:=hs.n rfl
   replace h91:=h91.mono hG94
   replace hl97:=hl97.mono hG94
   obtain ⟨A94,c94,rfl⟩:=LstR.slice h94
   refine A_moreS hs hle hG94 (List.Sublist.refl _)<|Xt 4 hs rfl (Y_build zeroValue122 rfl PL122 rfl (cs:=[_,_]) rfl ?_)
   have hle:=hs.le
   refine Xo 5 rfl (Se hs zeroValue122 rfl fun v64 _ hs _=>?_)
   have hsN:=hs.fixRow noM
   clear hs
   obtain ⟨_,hG96,hl96,hs⟩:=hsN
   replace h91:=h91.mono hG96
   replace hl97:=hl97.mono hG96
   replace h94:=h94.mono hG96
   obtain ⟨A96,c96,rfl,_⟩:=id hl96
   refine A_moreS hs hle hG96 (List.Sublist.refl _)<|Xt 7 hs rfl (Y_build zeroValue114 rfl PL114 rfl (cs:=[_,_,_,_,_,_,_,_,_,_,_,_,_,_,_,_,_,_,_,_,_,_,_,_,_,_,_,_,_,_,_,_,_]) rfl ?_)
   have hle:=hs.le
   refine Xo 9 rfl (S_litK hs underlying68 sizeOf114 zeroValue114 kR kR kR rfl (es:=[[_,_,_,_,_,_,_,_,_,_,_,_,_,_,_,_,_,_,_,_,_,_,_,_,_,_,_,_,_,_,_,_,_],[_,_,_,_,_,_,_,_,_,_,_,_,_,_,_,_,_,_,_,_,_,_,_,_,_,_,_,_,_,_,_,_,_]]) rfl rfl fun v65 _ hs shl=>?_)
   obtain ⟨bl100,rfl⟩:=shl
   refine A_moreS hs hle (Ghost.le.refl _) (List.sublist_cons_self _ _)<|Xa 10 rfl (Sc (rgrd_ok (b:=bl100) (n:=2) (css:=[[Vi 9,Vi 0,Vi 0,Vi 0,Vi 0,Vi 0,Vi 0,Vn,Vf,Vi 0,Vn,Vn,u64V 0,u64V 0,u64V 0,u64V 0,Vi 0,Vi 0,Vi 0,Vi 0,Vf,.slice A96 2 c96,.slice A97 2 c97,Vi 0,Vf,Vi 0,Vi 0,Vi 0,Vi 0,Vn,.string ⟨[].toArray⟩,Vi 0,Vi 0],[Vi 13,Vi 1,Vi 0,Vi 0,Vi 0,Vi 0,Vi 0,Vn,Vf,Vi 0,Vn,Vn,u64V 0,u64V 0,u64V 0,u64V 0,Vi 0,Vi 0,Vi 0,Vi 0,Vf,Vn,Vn,Vi 0,Vf,Vi 0,Vi 0,Vi 0,Vi 0,Vn,.string ⟨#[120]⟩,Vi 0,Vi 0]]) (ss:=[{ zeroS 9 with p:=[⟨starX clAB,true⟩,⟨starX clB,false⟩],ys:=[1,2],thn:=0,els:=0 },{ zeroS 13 with name:=[120],x:=1,thn:=0,els:=0 }]) rfl dC dC ⟨⟨⟨_,_,_,_,_,_,rfl,⟨Sl.nil _ _,fun _=>rfl⟩,⟨Sl.nil _ _,fun _=>rfl⟩,⟨Sl.nil _ _,fun _=>rfl⟩,⟨pat_two hl96 h91 h94,fun e=>by cases e⟩,⟨hl97,fun e=>by cases e⟩,⟨LstR.nil,fun _=>rfl⟩⟩,StR.plain (s:={ zeroS 13 with name:=[120],x:=1,thn:=0,els:=0 }) rfl rfl rfl rfl rfl rfl,trivial⟩,allLen rfl⟩) hs rfl fun v66 G' H' _ hR hG101 hs=>?_)
   obtain ⟨vs,vb,es,us,rfl,hE,hU,rfl⟩:=hR
   replace hs:=hs.n rfl
   refine Xn 11 rfl (Sg hs.f7 rfl Z15 fun _ hs=>Xe (Zk [2] rfl<|T_ret ?_))
   have hs:=hs.f1
   obtain ⟨_,hG_hfs,hfs,hs⟩:=hs.fixRow noM
   replace hE:=hE.mono hG_hfs
   replace hU:=hU.mono hG_hfs
   have hs:=hs.f1
   obtain ⟨_,hG_hfb,hfb,hs⟩:=hs.fixRow noM
   replace hE:=hE.mono hG_hfb
   replace hU:=hU.mono hG_hfb
   replace hfs:=hfs.mono hG_hfb
   refine Zz results33 (Rb 0 hs rfl rF) ?_
   exact ⟨_,[],hs.done,rfl,vs,vb,rfl,by rw [show k.toNat % 14=11 from by omega];exact pgR_of (p:=smallP 11) hE hU hfs hfb rfl rfl (fun e=>by cases e) (fun e=>by cases e)⟩
  have hle:=hs.le
  refine S_lit hs underlying45 sizeOf3 zeroValue3 rfl rfl dC dC rfl (cs:=[_,_]) rfl rfl fun v67 _ hs _=>?_
  have hsN:=hs.fixRow noM
  clear hs
  obtain ⟨_,hG97,hl97,hs⟩:=hsN
  obtain ⟨A97,c97,rfl,_⟩:=id hl97
  refine A_moreS hs hle hG97 (List.Sublist.refl _) ?_
  have hle:=hs.le
  refine Xo 0 rfl (Sc (rany_ok) hs rfl fun v68 G' H' _ hR hG91 hs=>?_)
  obtain ⟨rfl,h91⟩:=hR
  replace hs:=hs.n rfl
  replace hl97:=hl97.mono hG91
  obtain ⟨A91,c91,rfl⟩:=LstR.slice h91
  refine A_moreS hs hle hG91 (List.Sublist.refl _)<|Xt 1 hs rfl (Y_build zeroValue122 rfl PL122 rfl (cs:=[_,_]) rfl ?_)
  have hle:=hs.le
  refine Xo 2 rfl (Sc (lett2_ok) hs rfl fun v69 G' H' _ hR hG93 hs=>?_)
  obtain ⟨rfl,rfl⟩:=hR
  replace hs:=hs.n rfl
  replace hl97:=hl97.mono hG93
  replace h91:=h91.mono hG93
  refine A_moreS hs hle hG93 (List.Sublist.refl _) ?_
  have hle:=hs.le
  refine Xo 3 rfl (Sc (rsom_ok clB_ok) hs rfl fun v70 G' H' _ hR hG94 hs=>?_)
  obtain ⟨rfl,h94⟩:=hR
  replace hs:=hs.n rfl
  replace hl97:=hl97.mono hG94
  replace h91:=h91.mono hG94
  obtain ⟨A94,c94,rfl⟩:=LstR.slice h94
  refine A_moreS hs hle hG94 (List.Sublist.refl _)<|Xt 4 hs rfl (Y_build zeroValue122 rfl PL122 rfl (cs:=[_,_]) rfl ?_)
  have hle:=hs.le
  refine Xo 5 rfl (Se hs zeroValue122 rfl fun v71 _ hs _=>?_)
  have hsN:=hs.fixRow noM
  clear hs
  obtain ⟨_,hG96,hl96,hs⟩:=hsN
  replace hl97:=hl97.mono hG96
  replace h91:=h91.mono hG96
  replace h94:=h94.mono hG96
  obtain ⟨A96,c96,rfl,_⟩:=id hl96
  refine A_moreS hs hle hG96 (List.Sublist.refl _)<|Xt 7 hs rfl (Y_build zeroValue114 rfl PL114 rfl (cs:=[_,_,_,_,_,_,_,_,_,_,_,_,_,_,_,_,_,_,_,_,_,_,_,_,_,_,_,_,_,_,_,_,_]) rfl ?_)
  have hle:=hs.le
  refine Xo 9 rfl (S_litK hs underlying68 sizeOf114 zeroValue114 kR kR kR rfl (es:=[[_,_,_,_,_,_,_,_,_,_,_,_,_,_,_,_,_,_,_,_,_,_,_,_,_,_,_,_,_,_,_,_,_],[_,_,_,_,_,_,_,_,_,_,_,_,_,_,_,_,_,_,_,_,_,_,_,_,_,_,_,_,_,_,_,_,_]]) rfl rfl fun v72 _ hs shl=>?_)
  obtain ⟨bl100,rfl⟩:=shl
  refine A_moreS hs hle (Ghost.le.refl _) (List.sublist_cons_self _ _)<|Xa 10 rfl (Sc (rgrd_ok (b:=bl100) (n:=2) (css:=[[Vi 9,Vi 0,Vi 0,Vi 0,Vi 0,Vi 0,Vi 0,Vn,Vf,Vi 0,Vn,Vn,u64V 0,u64V 0,u64V 0,u64V 0,Vi 0,Vi 0,Vi 0,Vi 0,Vf,.slice A96 2 c96,.slice A97 2 c97,Vi 0,Vf,Vi 0,Vi 0,Vi 0,Vi 0,Vn,.string ⟨[].toArray⟩,Vi 0,Vi 0],[Vi 13,Vi 1,Vi 0,Vi 0,Vi 0,Vi 0,Vi 0,Vn,Vf,Vi 0,Vn,Vn,u64V 0,u64V 0,u64V 0,u64V 0,Vi 0,Vi 0,Vi 0,Vi 0,Vf,Vn,Vn,Vi 0,Vf,Vi 0,Vi 0,Vi 0,Vi 0,Vn,.string ⟨#[120]⟩,Vi 0,Vi 0]]) (ss:=[{ zeroS 9 with p:=[⟨starX clAB,true⟩,⟨starX clB,false⟩],ys:=[1,2],thn:=0,els:=0 },{ zeroS 13 with name:=[120],x:=1,thn:=0,els:=0 }]) rfl dC dC ⟨⟨⟨_,_,_,_,_,_,rfl,⟨Sl.nil _ _,fun _=>rfl⟩,⟨Sl.nil _ _,fun _=>rfl⟩,⟨Sl.nil _ _,fun _=>rfl⟩,⟨pat_two hl96 h91 h94,fun e=>by cases e⟩,⟨hl97,fun e=>by cases e⟩,⟨LstR.nil,fun _=>rfl⟩⟩,StR.plain (s:={ zeroS 13 with name:=[120],x:=1,thn:=0,els:=0 }) rfl rfl rfl rfl rfl rfl,trivial⟩,allLen rfl⟩) hs rfl fun v73 G' H' _ hR hG101 hs=>?_)
  obtain ⟨vs,vb,es,us,rfl,hE,hU,rfl⟩:=hR
  replace hs:=hs.n rfl
  refine Xn 11 rfl (Sg hs.f7 rfl Z15 fun _ hs=>Xe (Zk [2] rfl<|T_ret ?_))
  have hs:=hs.f1
  obtain ⟨_,hG_hfs,hfs,hs⟩:=hs.fixRow noM
  replace hE:=hE.mono hG_hfs
  replace hU:=hU.mono hG_hfs
  have hs:=hs.f1
  obtain ⟨_,hG_hfb,hfb,hs⟩:=hs.fixRow noM
  replace hE:=hE.mono hG_hfb
  replace hU:=hU.mono hG_hfb
  replace hfs:=hfs.mono hG_hfb
  refine Zz results33 (Rb 0 hs rfl rF) ?_
  exact ⟨_,[],hs.done,rfl,vs,vb,rfl,by rw [show k.toNat % 14=11 from by omega];exact pgR_of (p:=smallP 11) hE hU hfs hfb rfl rfl (fun e=>by cases e) (fun e=>by cases e)⟩
 refine Wp 5 [0] hs rfl<|Zy hs (Yc rfl (fun h103=>?_) fun h103=>?_)
 ·
  refine Wp 5 [0] hs rfl<|Zy hs (Y_build zeroValue112 rfl PL112 rfl (cs:=[_,_,_,_,_,_,_]) rfl<|O_s (Sc (rcho_ok (cd:=⟨3,false,0,0,0,2,[]⟩) (Ar:=none) (kr:=0) LstR.nil (fun _=>rfl)) hs rfl fun v74 G' H' _ hR hG105 hs=>?_))
  obtain ⟨vs,vb,es,us,rfl,hE,hU,rfl⟩:=hR
  replace hs:=hs.n rfl
  refine O_n (Sg hs.f7 rfl Z15 fun _ hs=>Wp 1 [0] hs rfl<|T_ret ?_)
  have hs:=hs.f1
  obtain ⟨_,hG_hfs,hfs,hs⟩:=hs.fixRow noM
  replace hE:=hE.mono hG_hfs
  replace hU:=hU.mono hG_hfs
  have hs:=hs.f1
  obtain ⟨_,hG_hfb,hfb,hs⟩:=hs.fixRow noM
  replace hE:=hE.mono hG_hfb
  replace hU:=hU.mono hG_hfb
  replace hfs:=hfs.mono hG_hfb
  refine Zz results33 (Rb 0 hs rfl rF) ?_
  exact ⟨_,[],hs.done,rfl,vs,vb,rfl,by rw [show k.toNat % 14=12 from by omega];exact pgR_of (p:=smallP 12) hE hU hfs hfb rfl rfl (fun e=>by cases e) (fun e=>by cases e)⟩
 refine Wp 6 [0] hs rfl<|Zy hs (Y_build zeroValue106 rfl PL106 rfl (cs:=[_,_,_,_,_]) rfl<|Zy hs (Y_build zeroValue114 rfl PL114 rfl (cs:=[_,_,_,_,_,_,_,_,_,_,_,_,_,_,_,_,_,_,_,_,_,_,_,_,_,_,_,_,_,_,_,_,_]) rfl<|Wp 1 [4] hs rfl<|O_s (S_litK hs underlying68 sizeOf114 zeroValue114 kR kR kR rfl (es:=[[_,_,_,_,_,_,_,_,_,_,_,_,_,_,_,_,_,_,_,_,_,_,_,_,_,_,_,_,_,_,_,_,_],[_,_,_,_,_,_,_,_,_,_,_,_,_,_,_,_,_,_,_,_,_,_,_,_,_,_,_,_,_,_,_,_,_]]) rfl rfl fun v75 _ hs shl=>?_)))
 obtain ⟨bl109,rfl⟩:=shl
 refine O_s (Sc (rgrd_ok (b:=bl109) (n:=2) (css:=[[Vi 8,Vi 0,Vi 0,Vi 0,Vi 0,Vi 0,Vi 0,Vn,Vf,Vi 0,Vn,Vn,u64V 0,u64V 0,u64V 0,u64V 0,Vi 16,Vi 2,Vi 11,Vi 2,Vf,Vn,Vn,Vi 0,Vf,Vi 0,Vi 0,Vi 0,Vi 0,Vn,.string ⟨[].toArray⟩,Vi 0,Vi 0],[Vi 13,Vi 0,Vi 0,Vi 0,Vi 0,Vi 0,Vi 0,Vn,Vf,Vi 0,Vn,Vn,u64V 0,u64V 0,u64V 0,u64V 0,Vi 0,Vi 0,Vi 0,Vi 0,Vf,Vn,Vn,Vi 0,Vf,Vi 0,Vi 0,Vi 0,Vi 0,Vn,.string ⟨#[120]⟩,Vi 0,Vi 0]]) (ss:=[{ zeroS 8 with rule:=⟨16,2,11,2,false⟩,thn:=0,els:=0 },{ zeroS 13 with name:=[120],thn:=0,els:=0 }]) rfl dC dC ⟨⟨StR.plain (s:={ zeroS 8 with rule:=⟨16,2,11,2,false⟩,thn:=0,els:=0 }) rfl rfl rfl rfl rfl rfl,StR.plain (s:={ zeroS 13 with name:=[120],thn:=0,els:=0 }) rfl rfl rfl rfl rfl rfl,trivial⟩,allLen rfl⟩) hs rfl fun v76 G' H' _ hR hG110 hs=>?_)
 obtain ⟨vs,vb,es,us,rfl,hE,hU,rfl⟩:=hR
 replace hs:=hs.n rfl
 refine O_n (Sg hs.f7 rfl Z15 fun _ hs=>Wp 1 [0] hs rfl<|T_ret ?_)
 have hs:=hs.f1
 obtain ⟨_,hG_hfs,hfs,hs⟩:=hs.fixRow noM
 replace hE:=hE.mono hG_hfs
 replace hU:=hU.mono hG_hfs
 have hs:=hs.f1
 obtain ⟨_,hG_hfb,hfb,hs⟩:=hs.fixRow noM
 replace hE:=hE.mono hG_hfb
 replace hU:=hU.mono hG_hfb
 replace hfs:=hfs.mono hG_hfb
 refine Zz results33 (Rb 0 hs rfl rF) ?_
 exact ⟨_,[],hs.done,rfl,vs,vb,rfl,by rw [show k.toNat % 14=13 from by omega];exact pgR_of (p:=smallP 13) hE hU hfs hfb rfl rfl (fun e=>by cases e) (fun e=>by cases e)⟩
theorem rsin_ok {G:Ghost} {u v:Value} {a b:List Int} (ha:Ints G u a) (hb:Ints G v b) (hn:a.length≤1000000) :
  FnOk prog 21 [u,v] G [] fun r _ H'=>H'=[]∧r=.bool (decide (a=b)):=by
 obtain ⟨Aa,ca,rfl,_⟩:=id ha
 obtain ⟨Ab,cb,rfl,_⟩:=id hb
 refine FnOk.of_T [(0,_),(1,_)] func21 rfl ntmps21 sM rfl fun w0 hs=>?_
 have ha0:=ha
 have hb0:=hb
 refine Wt 11 [0] hs rfl<|Zy hs (Yc rfl (fun h10=>?_) fun h10=>?_)
 ·
  refine Wp 6 [0,0] hs rfl<|T_ret<|Zz results21 rfl ?_
  exact ⟨_,[],hs.done,rfl,congrArg Value.bool (decide_eq_false (fun h=>by rw [h] at h10;exact h10 rfl)).symm⟩
 refine Wp 8 [0,0] hs rfl<|Zl [0,1,5] (fun m E w=>∃ (k:Nat) (G2:Ghost),k≤a.length∧(∀ i (h1:i<a.length) (h2:i<b.length),i<k→a[i]=b[i])∧m=a.length-k∧E=⟨[],[(0,(.slice Aa a.length ca)),(1,(.slice Ab b.length cb)),(5,Vi (k:Int))]⟩∧St ⟨w0,G,feet []⟩ G2 [] w) rfl (⟨0,_,by omega,fun i h1 h2 h3=>absurd h3 oM,rfl,rfl,hs⟩) fun m E w hI=>?_
 obtain ⟨k,G2,hk,hall,rfl,rfl,hs⟩:=hI
 have ha:=ha0.mono hs.le
 have hb:=hb0.mono hs.le
 refine Wt 6 [] hs rfl<|Zy hs (Yc rfl (fun h14=>?_) fun h14=>?_)
 ·
  refine Wp 6 [0] hs rfl<|T_drawS [0,1,2,3,4,5,6,7,8] hs kR ?_
  replace hs:=hs.drew
  refine Xr [0,1] [] hs rfl<|Xt 2 hs rfl (Y_idxI ha k underlying45 sizeOf3 rfl rfl rfl oM fun p19 hp19 =>Xt 3 hs rfl (Yg rfl (hp19)<|Xr [4,5] [] hs rfl<|Xt 6 hs rfl (Y_idxI hb k underlying45 sizeOf3 rfl rfl rfl oM fun p23 hp23 =>Xt 7 hs rfl (Yg rfl (hp23)<|Xt 8 hs rfl (Y_cmpS rfl rfl rfl (fun h25=>?_) (fun h25=>?_))))))
  ·
   dsimp only [cmpP] at h25
   refine Xe (Zk [0,1,5,25] rfl<|Wu 5 [0] hs rfl<|T_ret<|Zz results21 rfl ?_)
   exact ⟨_,[],hs.done,rfl,congrArg Value.bool (decide_eq_false (fun h=>h25 (by simp only [h]))).symm⟩
  dsimp only [cmpP] at h25
  refine Xe (Zk [0,1,5,25] rfl<|Wu 4 [] hs rfl<|Zy hs (Ya (s:=((k+1:Nat):Int)) rfl<|Wp 1 [] hs rfl<|Zx [0,1,5] rfl ⟨k+1,_,by omega,fun i h1 h2 h3=>(Nat.lt_or_ge i k).elim (hall i h1 h2) (fun h'=>by have e:i=k:=oM;subst e;omega),rfl,rfl,hs⟩))
 refine Wp 3 [0] hs rfl<|Wu 4 [0] hs rfl<|T_ret<|Zz results21 rfl ?_
 exact ⟨_,[],hs.done,rfl,congrArg Value.bool (decide_eq_true (List.ext_getElem oM (fun i h1 h2=>hall i h1 h2 oM))).symm⟩
theorem rin_ok {G:Ghost} {v:Value} {l:List Int} {x:Int} (hl:Ints G v l) (hn:l.length≤1000000) :
  FnOk prog 30 [v,Vi x] G [] fun r _ H'=>H'=[]∧r=.bool (decide (x∈l)):=by
 obtain ⟨Al,cl,rfl,_⟩:=id hl
 refine FnOk.of_T [(0,_),(1,_)] func30 rfl ntmps30 sM rfl fun w0 hs=>?_
 have hl0:=hl
 refine Wt 9 [0,0] hs rfl<|Zl [0,1,5] (fun m E w=>∃ (k:Nat) (G2:Ghost),k≤l.length∧x∉l.take k∧m=l.length-k∧E=⟨[],[(0,(.slice Al l.length cl)),(1,Vi x),(5,Vi (k:Int))]⟩∧St ⟨w0,G,feet []⟩ G2 [] w) rfl (⟨0,_,by omega,by simp,rfl,rfl,hs⟩) fun m E w hI=>?_
 obtain ⟨k,G2,hk,hx,rfl,rfl,hs⟩:=hI
 have hl:=hl0.mono hs.le
 refine Wt 6 [] hs rfl<|Zy hs (Yc rfl (fun h9=>?_) fun h9=>?_)
 ·
  refine Wp 9 [0] hs rfl<|Zy hs (Y_idxI hl k underlying45 sizeOf3 rfl rfl rfl oM fun p14 hp14 =>Zy hs (Yg rfl (hp14)<|Wp 1 [] hs rfl<|Zy hs (Yc rfl (fun h17=>?_) fun h17=>?_)))
  ·
   refine Wp 6 [0,0] hs rfl<|T_ret<|Zz results30 rfl ?_
   exact ⟨_,[],hs.done,rfl,congrArg Value.bool (decide_eq_true (by rw [← h17];exact List.getElem_mem _)).symm⟩
  refine Wp 5 [0] hs rfl<|Zy hs (Ya (s:=((k+1:Nat):Int)) rfl<|Wp 1 [] hs rfl<|Zx [0,1,5] rfl ⟨k+1,_,by omega,by rw [take_succ' oM];intro h;rcases List.mem_append.1 h with h | h;exact hx h;exact h17 (List.mem_singleton.1 h).symm,rfl,rfl,hs⟩)
 refine Wp 3 [0] hs rfl<|Wu 4 [0] hs rfl<|T_ret<|Zz results30 rfl ?_
 obtain rfl:k=l.length:=by omega
 rw [List.take_length] at hx
 exact ⟨_,[],hs.done,rfl,congrArg Value.bool (decide_eq_false hx).symm⟩
theorem rint_ok {G:Ghost} {v:Value} {l:List Int} (hl:Ints G v l) (hn:l.length≤1000000) :
  FnOk prog 32 [v] G [] fun r _ H'=>H'=[.row 3 1 r l.length (l.map (.int .i64))]:=by
 refine FnOk.of_T [(0,_)] func32 rfl ntmps32 sM rfl fun w0 hs=>?_
 have hl0:=hl
 refine Wt 6 [0] hs rfl<|O_s (Se hs zeroValue3 rfl fun v1 _ hs shl=>?_)
 obtain ⟨bl4,rfl⟩:=shl
 refine Wp 6 [0] hs rfl<|O_s (S_append hs underlying45 TI3 rfl dC rfl rfl (hl) (intV_one) oM oM fun v2 _ hs =>Wp 2 [0] hs rfl<|T_ret<|Zz results32 rfl ?_)
 have hz:=hs
 rw [Nat.zero_add] at hz
 exact ⟨_,_,hz,rfl⟩
theorem rspr_ok {G:Ghost} {u v:Value} {l:List (Int×Int)} (ha:Eds G u l) (hb:Eds G v l) (hn:l.length≤1000000) :
  FnOk prog 22 [u,v] G [] fun r _ H'=>H'=[]∧r=Vt:=by
 obtain ⟨Aa,ca,rfl⟩:=LstR.slice ha
 obtain ⟨Ab,cb,rfl⟩:=LstR.slice hb
 refine FnOk.of_T [(0,_),(1,_)] func22 rfl ntmps22 sM rfl fun w0 hs=>?_
 have ha0:=ha
 have hb0:=hb
 refine Wt 11 [0] hs rfl<|Zy hs (Y_cmpF rfl rfl rfl oM<|Wp 8 [0,0] hs rfl<|Zl [0,1,5] (fun m E w=>∃ (k:Nat) (G2:Ghost),k≤l.length∧m=l.length-k∧E=⟨[],[(0,(.slice Aa l.length ca)),(1,(.slice Ab l.length cb)),(5,Vi (k:Int))]⟩∧St ⟨w0,G,feet []⟩ G2 [] w) rfl (⟨0,_,by omega,rfl,rfl,hs⟩) fun m E w hI=>?_)
 obtain ⟨k,G2,hk,rfl,rfl,hs⟩:=hI
 have ha:=ha0.mono hs.le
 have hb:=hb0.mono hs.le
 refine Wt 6 [] hs rfl<|Zy hs (Yc rfl (fun h14=>?_) fun h14=>?_)
 ·
  refine Wp 6 [0] hs rfl<|T_drawS [0,1,2,3,4,5,6,7,8] hs kR ?_
  replace hs:=hs.drew
  refine Xr [0,1] [] hs rfl<|Xt 2 hs rfl (Y_idxS ha k underlying35 sizeOf31 rfl rfl rfl oM fun p19 c19 hp19 hc19 hR19 =>Xt 3 hs rfl (Y_ldAG (vs:=[Vi l[k].1,Vi l[k].2]) isAgg31 sizeOf31 rfl (hR19▸hp19) rfl<|Xr [4,5] [] hs rfl<|Xt 6 hs rfl (Y_idxS hb k underlying35 sizeOf31 rfl rfl rfl oM fun p23 c23 hp23 hc23 hR23 =>Xt 7 hs rfl (Y_ldAG (vs:=[Vi l[k].1,Vi l[k].2]) isAgg31 sizeOf31 rfl (hR23▸hp23) rfl<|Xt 8 hs rfl (Y_neqNums (a:=[l[k].1,l[k].2]) (b:=[l[k].1,l[k].2]) underlying31 sizeOf3 isAgg3 underlying3 kR rfl rfl rfl rfl (fun h=>absurd rfl h) (fun _ =>Xe (Zk [0,1,5,25] rfl<|Wu 4 [] hs rfl<|Zy hs (Ya (s:=((k+1:Nat):Int)) rfl<|Wp 1 [] hs rfl<|Zx [0,1,5] rfl ⟨k+1,_,by omega,rfl,rfl,hs⟩))))))))
 refine Wp 3 [0] hs rfl<|Wu 4 [0] hs rfl<|T_ret<|Zz results22 rfl ?_
 exact ⟨_,[],hs.done,rfl,rfl⟩
theorem rsls_ok {G:Ghost} {u v:Value} {l:List (List Int)} (ha:Rts G u l) (hb:Rts G v l) (hn:l.length≤1000000) (hlz:∀ r∈l,r.length≤1000000) :
  FnOk prog 27 [u,v] G [] fun r _ H'=>H'=[]∧r=Vt:=by
 obtain ⟨Aa,ca,rfl⟩:=LstR.slice ha
 obtain ⟨Ab,cb,rfl⟩:=LstR.slice hb
 refine FnOk.of_T [(0,_),(1,_)] func27 rfl ntmps27 sM rfl fun w0 hs=>?_
 have ha0:=ha
 have hb0:=hb
 refine Wt 11 [0] hs rfl<|Zy hs (Y_cmpF rfl rfl rfl oM<|Wp 8 [0,0] hs rfl<|Zl [0,1,5] (fun m E w=>∃ (k:Nat) (G2:Ghost),k≤l.length∧m=l.length-k∧E=⟨[],[(0,(.slice Aa l.length ca)),(1,(.slice Ab l.length cb)),(5,Vi (k:Int))]⟩∧St ⟨w0,G,feet []⟩ G2 [] w) rfl (⟨0,_,by omega,rfl,rfl,hs⟩) fun m E w hI=>?_)
 obtain ⟨k,G2,hk,rfl,rfl,hs⟩:=hI
 have ha:=ha0.mono hs.le
 have hb:=hb0.mono hs.le
 refine Wt 6 [] hs rfl<|Zy hs (Yc rfl (fun h14=>?_) fun h14=>?_)
 ·
  refine Wp 6 [0] hs rfl<|T_drawS [0,1,2,3,4,5,6,7,8,9] hs kR ?_
  replace hs:=hs.drew
  refine Xr [0,1] [] hs rfl<|Xt 2 hs rfl (Y_idxS ha k underlying36 sizeOf45 rfl rfl rfl oM fun p19 c19 hp19 hc19 hR19=>?_)
  obtain ⟨u19,rfl,hv19⟩:=hR19
  obtain ⟨A19,c19,rfl,_⟩:=id hv19
  refine Xt 3 hs rfl (Yg rfl (hp19 0 (.slice A19 l[k].length c19) rfl)<|Xr [4,5] [] hs rfl<|Xt 6 hs rfl (Y_idxS hb k underlying36 sizeOf45 rfl rfl rfl oM fun p23 c23 hp23 hc23 hR23=>?_))
  obtain ⟨u23,rfl,hv23⟩:=hR23
  obtain ⟨A23,c23,rfl,_⟩:=id hv23
  refine Xt 7 hs rfl (Yg rfl (hp23 0 (.slice A23 l[k].length c23) rfl) ?_)
  have hle:=hs.le
  refine Xo 8 rfl (Sc (rsin_ok hv19 hv23 (hlz _ (List.getElem_mem _))) hs rfl fun v1 G' H' _ hR hG25 hs=>?_)
  obtain ⟨rfl,rfl⟩:=hR
  replace hs:=hs.n rfl
  rw [show decide (l[k]=l[k])=true from decide_eq_true rfl]
  refine A_moreS hs hle hG25 (List.Sublist.refl _)<|Xr [9] [] hs rfl<|Xe (Zk [0,1,5,26] rfl<|Wu 4 [] hs rfl<|Zy hs (Ya (s:=((k+1:Nat):Int)) rfl<|Wp 1 [] hs rfl<|Zx [0,1,5] rfl ⟨k+1,_,by omega,rfl,rfl,hs⟩))
 refine Wp 3 [0] hs rfl<|Wu 4 [0] hs rfl<|T_ret<|Zz results27 rfl ?_
 exact ⟨_,[],hs.done,rfl,rfl⟩
theorem eqF_cons {P : Program} {w : World} {d : Nat} {xs ys : Array Value} {f : Field} {fs : List Field} {u v : Value} {r : Bool} (hn : f.name ≠ "_") (pa : (part f.type xs f.offset).run P w = .ok u w) (pb : (part f.type ys f.offset).run P w = .ok v w)
    (he:(Op.equalIn d f.type u v).run P w=.ok r w):(Op.eqFields d xs ys (f::fs)).run P w=if r=true then (Op.eqFields d xs ys fs).run P w else .ok false w:=by
  simp only [Op.eqFields,if_pos hn,Sem.run_bind,pa,pb,he,Result.andThen_ok]
  cases r<;>simp
structure NodeTy (P:Program) (nd:TypeId):Prop where
  fs : ∃ f0 f1 f2 f3 f4 f5 : Field, ∃ e : TypeId, P.underlying nd = some (.struct #[f0, f1, f2, f3, f4, f5]) ∧ (f0.name ≠ "_" ∧ f1.name ≠ "_" ∧ f2.name ≠ "_" ∧ f3.name ≠ "_" ∧ f4.name ≠ "_" ∧ f5.name ≠ "_") ∧
    (f0.offset=0∧f1.offset=1∧f2.offset=5∧f3.offset=6∧f4.offset=7∧f5.offset=8) ∧
    (P.underlying f0.type=some (.int .i64)∧P.underlying f2.type=some (.int .i64)∧P.underlying f3.type=some (.int .i64)∧P.underlying f4.type=some (.int .i64)∧P.underlying f5.type=some (.int .i64)) ∧
    ((∀ w,(isAgg f0.type).run P w=.ok false w)∧(∀ w,(isAgg f2.type).run P w=.ok false w)∧(∀ w,(isAgg f3.type).run P w=.ok false w)∧(∀ w,(isAgg f4.type).run P w=.ok false w)∧(∀ w,(isAgg f5.type).run P w=.ok false w)) ∧
    (P.underlying f1.type=some (.array 4 e)∧(∀ w,(sizeOf e).run P w=.ok 1 w)∧(∀ w,(isAgg e).run P w=.ok false w)∧P.underlying e=some (.int .u64)∧(∀ w,(isAgg f1.type).run P w=.ok true w)∧(∀ w,(sizeOf f1.type).run P w=.ok 4 w))
  held:P.stoodInHeld nd=false
  guard:P.eqGuardType P.depth nd=false
open Classical in
theorem NodeTy.eq {P:Program} {nd:TypeId} (h:NodeTy P nd) {a b:NodeV} (ha:ClsOk a.c) (hb:ClsOk b.c) (w:World):(Op.equalIn 10000 nd (.agg (nodeC a).toArray) (.agg (nodeC b).toArray)).run P w=.ok (decide (a=b)) w:=by
  obtain ⟨⟨f0,f1,f2,f3,f4,f5,e,hu,⟨n0,n1,n2,n3,n4,n5⟩,⟨o0,o1,o2,o3,o4,o5⟩,⟨t0,t2,t3,t4,t5⟩,⟨g0,g2,g3,g4,g5⟩,ht,hS,hA,he,h1A,h1S⟩,hh,_⟩:=h
  have hf:P.fieldsOf nd=#[f0,f1,f2,f3,f4,f5]:=by unfold Program.fieldsOf;rw [hu]
  obtain ⟨ka,ca,la,ra,mna,mxa⟩:=a
  obtain ⟨kb,cb,lb,rb,mnb,mxb⟩:=b
  obtain ⟨a0,a1,a2,a3,rfl⟩:=four_of ha.1
  obtain ⟨b0,b1,b2,b3,rfl⟩:=four_of hb.1
  rw [run_equalIn_struct w 9999 nd _ _ (by rw [hf];exact hu) hh,hf]
  show (Op.eqFields 9999 _ _ [f0,f1,f2,f3,f4,f5]).run P w=_
  have q:∀ (f:Field) (x y:Int),P.underlying f.type=some (.int .i64)→(Op.equalIn 9999 f.type (Vi x) (Vi y)).run P w=.ok (decide (x=y)) w:=fun f x y hx=>by
    rw [run_equalIn_int w 9998 f.type _ _ _ _ hx]
    by_cases h:x=y<;>simp [h]
  have pA:∀ (x0 x1 x2 x3 x4 x5 x6 x7 x8:Value),(part f1.type #[x0,x1,x2,x3,x4,x5,x6,x7,x8] f1.offset).run P w=.ok (.agg #[x1,x2,x3,x4]) w:=fun _ _ _ _ _ _ _ _ _=>by
    rw [o1];simp [part,h1A w,h1S w]
  have pX:(part f1.type (nodeC ⟨ka,[a0,a1,a2,a3],la,ra,mna,mxa⟩).toArray f1.offset).run P w=.ok (.agg (List.map u64V [a0,a1,a2,a3]).toArray) w:=pA _ _ _ _ _ _ _ _ _
  have pY:(part f1.type (nodeC ⟨kb,[b0,b1,b2,b3],lb,rb,mnb,mxb⟩).toArray f1.offset).run P w=.ok (.agg (List.map u64V [b0,b1,b2,b3]).toArray) w:=pA _ _ _ _ _ _ _ _ _
  have h4:(Op.equalIn 9999 f1.type (.agg (List.map u64V [a0,a1,a2,a3]).toArray) (.agg (List.map u64V [b0,b1,b2,b3]).toArray)).run P w=.ok (decide ([a0,a1,a2,a3]=[b0,b1,b2,b3])) w:=equalIn_w4 (P:=P) (w:=w) 9997 ht hS hA he (x:=[a0,a1,a2,a3]) (y:=[b0,b1,b2,b3]) rfl rfl ha.2 hb.2
  rw [eqF_cons n0 (part1 g0 (by rw [o0];rfl)) (part1 g0 (by rw [o0];rfl)) (q f0 ka kb t0)]
  rw [eqF_cons n1 pX pY h4]
  rw [eqF_cons n2 (part1 g2 (by rw [o2];rfl)) (part1 g2 (by rw [o2];rfl)) (q f2 la lb t2)]
  rw [eqF_cons n3 (part1 g3 (by rw [o3];rfl)) (part1 g3 (by rw [o3];rfl)) (q f3 ra rb t3)]
  rw [eqF_cons n4 (part1 g4 (by rw [o4];rfl)) (part1 g4 (by rw [o4];rfl)) (q f4 mna mnb t4)]
  rw [eqF_cons n5 (part1 g5 (by rw [o5];rfl)) (part1 g5 (by rw [o5];rfl)) (q f5 mxa mxb t5)]
  have e1:((⟨ka,[a0,a1,a2,a3],la,ra,mna,mxa⟩:NodeV)=⟨kb,[b0,b1,b2,b3],lb,rb,mnb,mxb⟩)↔ka=kb∧[a0,a1,a2,a3]=[b0,b1,b2,b3]∧la=lb∧ra=rb∧mna=mnb∧mxa=mxb:=by simp only [NodeV.mk.injEq]
  simp only [decide_eq_true_eq,Op.eqFields,Sem.run_pure,e1]
  by_cases c1:ka=kb
  · by_cases c2:[a0,a1,a2,a3]=[b0,b1,b2,b3]
    · by_cases c3:la=lb
      · by_cases c4:ra=rb
        · by_cases c5:mna=mnb
          · by_cases c6:mxa=mxb
            · rw [if_pos c1,if_pos c2,if_pos c3,if_pos c4,if_pos c5,if_pos c6,decide_eq_true ⟨c1,c2,c3,c4,c5,c6⟩]
            · rw [if_pos c1,if_pos c2,if_pos c3,if_pos c4,if_pos c5,if_neg c6,decide_eq_false (fun h=>c6 h.2.2.2.2.2)]
          · rw [if_pos c1,if_pos c2,if_pos c3,if_pos c4,if_neg c5,decide_eq_false (fun h=>c5 h.2.2.2.2.1)]
        · rw [if_pos c1,if_pos c2,if_pos c3,if_neg c4,decide_eq_false (fun h=>c4 h.2.2.2.1)]
      · rw [if_pos c1,if_pos c2,if_neg c3,decide_eq_false (fun h=>c3 h.2.2.1)]
    · rw [if_pos c1,if_neg c2,decide_eq_false (fun h=>c2 h.2.1)]
  · rw [if_neg c1,decide_eq_false (fun h=>c1 h.1)]
section
variable {x:Cx} {W:World→Prop} {E:Env} {K:Value→Prop} {d:Option Tmp} {ty:TypeId} {pos:String} {aft:Array Edge} {g:Option (Nat×Bool)} {o q:Operand} {xt yt:TypeId}
open Classical in
theorem Y_neqNS {a b:NodeV} (h:NodeTy x.P xt) (ha:ClsOk a.c) (hb:ClsOk b.c) (h1:ev E o=some (.agg (nodeC a).toArray)) (h2:ev E q=some (.agg (nodeC b).toArray)) (kt:¬ a=b→K (Vt)) (kf:a=b→K (Vf)):Y x W ⟨d,.binOp .neq xt o q yt,ty,pos,aft,g⟩ E K :=
  Y_of (v:=.bool (!decide (a=b))) (fun f hf w _=>by
    have h':(binOp .neq xt (.agg (nodeC a).toArray) (.agg (nodeC b).toArray)).run x.P w=.ok (.bool (!decide (a=b))) w:=by
      rw [run_neq_struct,h.eq ha hb];rfl
    simp only [execOp,hf.ev h1,hf.ev h2,Sem.run_bind,run_eqGuard_agg w _ _ _ _ _ _ h.guard,Result.andThen_ok,h',Sem.run_pure]) (by
    by_cases hab:a=b
    · simpa [hab] using kf hab
    · simpa [hab] using kt hab)
end
theorem nodeTy:NodeTy prog 152 where
  fs:=⟨_,_,_,_,_,_,_,underlying152,⟨by decide,by decide,by decide,by decide,by decide,by decide⟩,⟨rfl,rfl,rfl,rfl,rfl,rfl⟩,⟨underlying3,underlying3,underlying3,underlying3,underlying3⟩,⟨isAgg3,isAgg3,isAgg3,isAgg3,isAgg3⟩,underlying104,sizeOf102,isAgg102,underlying102,isAgg104,sizeOf104⟩
  held:=by kernel_rfl
  guard:=by kernel_rfl
theorem nodeC_len' {n:NodeV} (h:ClsOk n.c):(nodeC n).length=9:=by unfold nodeC;simp [h.1]
theorem rsrx_ok {G:Ghost} {u v:Value} {l:List NodeV} (ha:Rx G u l) (hb:Rx G v l) (hn:l.length≤1000000) :
  FnOk prog 153 [u,v] G [] fun r _ H'=>H'=[]∧r=Vt:=by
 obtain ⟨Aa,ca,rfl⟩:=LstR.slice ha
 obtain ⟨Ab,cb,rfl⟩:=LstR.slice hb
 refine FnOk.of_T [(0,_),(1,_)] func153 rfl ntmps153 sM rfl fun w0 hs=>?_
 have ha0:=ha
 have hb0:=hb
 refine Wt 11 [0] hs rfl<|Zy hs (Y_cmpF rfl rfl rfl oM<|Wp 8 [0,0] hs rfl<|Zl [0,1,5] (fun m E w=>∃ (k:Nat) (G2:Ghost),k≤l.length∧m=l.length-k∧E=⟨[],[(0,(.slice Aa l.length ca)),(1,(.slice Ab l.length cb)),(5,Vi (k:Int))]⟩∧St ⟨w0,G,feet []⟩ G2 [] w) rfl (⟨0,_,by omega,rfl,rfl,hs⟩) fun m E w hI=>?_)
 obtain ⟨k,G2,hk,rfl,rfl,hs⟩:=hI
 have ha:=ha0.mono hs.le
 have hb:=hb0.mono hs.le
 refine Wt 6 [] hs rfl<|Zy hs (Yc rfl (fun h14=>?_) fun h14=>?_)
 ·
  refine Wp 6 [0] hs rfl<|T_drawS [0,1,2,3,4,5,6,7,8] hs kR ?_
  replace hs:=hs.drew
  refine Xr [0,1] [] hs rfl<|Xt 2 hs rfl (Y_idxS ha k underlying110 sizeOf152 rfl rfl rfl oM fun p19 c19 hp19 hc19 hR19=>?_)
  rw [hR19.1] at hp19
  refine Xt 3 hs rfl (Y_ldAG (vs:=nodeC l[k]) isAgg152 sizeOf152 rfl hp19 (nodeC_len' hR19.2)<|Xr [4,5] [] hs rfl<|Xt 6 hs rfl (Y_idxS hb k underlying110 sizeOf152 rfl rfl rfl oM fun p23 c23 hp23 hc23 hR23=>?_))
  rw [hR23.1] at hp23
  refine Xt 7 hs rfl (Y_ldAG (vs:=nodeC l[k]) isAgg152 sizeOf152 rfl hp23 (nodeC_len' hR23.2)<|Xt 8 hs rfl (Y_neqNS (a:=l[k]) (b:=l[k]) nodeTy hR19.2 hR23.2 rfl rfl (fun h=>absurd rfl h) (fun _ =>Xe (Zk [0,1,5,25] rfl<|Wu 4 [] hs rfl<|Zy hs (Ya (s:=((k+1:Nat):Int)) rfl<|Wp 1 [] hs rfl<|Zx [0,1,5] rfl ⟨k+1,_,by omega,rfl,rfl,hs⟩)))))
 refine Wp 3 [0] hs rfl<|Wu 4 [0] hs rfl<|T_ret<|Zz results153 rfl ?_
 exact ⟨_,[],hs.done,rfl,rfl⟩
section
variable {x:Cx} {W:World→Prop} {E:Env} {K:Value→Prop} {d:Option Tmp} {ty:TypeId} {pos:String} {aft:Array Edge} {g:Option (Nat×Bool)} {o p:Operand} {xt yt:TypeId}
theorem Y_boolNe0 {a:Bool} (hu:x.P.underlying xt=some .bool) (h1:ev E o=some (.bool a)) (h2:ev E p=some (.bool a)) (k:K (Vf)):Y x W ⟨d,.binOp .neq xt o p yt,ty,pos,aft,g⟩ E K:=by
  refine Y_of (v:=Vf) (fun f hf w _=>?_) k
  have he:eqGuard .neq xt o p (.bool a) (.bool a)=pure ():=rfl
  have h:∀ q:Nat,(Op.equalIn (q+1) xt (.bool a) (.bool a)).run x.P w=.ok (a == a) w:=fun q=>by simp [Op.equalIn,run_underlying hu]
  have h':(binOp .neq xt (.bool a) (.bool a)).run x.P w=.ok (Vf) w:=by
    simp only [binOp]
    simp [Op.equal,Op.maxDepth,h 9999]
  simp only [execOp,hf.ev h1,hf.ev h2,he]
  simp [h']
theorem natsI {G:Ghost} {v:Value} {l:List Nat} (h:Nats G v l):Ints G v (l.map fun x:Nat=>(x:Int)):=by
  show Sl G v 1 (List.map _ l).length (List.map _ (List.map _ l))
  rw [List.length_map,List.map_map];exact h
end
theorem rspt_ok {G:Ghost} {u v:Value} {l:List PartM} (ha:Pat G u l) (hb:Pat G v l) (hn:l.length≤1000000) (hlz:∀ p∈l,p.r.length≤1000000) :
  FnOk prog 129 [u,v] G [] fun r _ H'=>H'=[]∧r=Vt:=by
 obtain ⟨Aa,ca,rfl⟩:=LstR.slice ha
 obtain ⟨Ab,cb,rfl⟩:=LstR.slice hb
 refine FnOk.of_T [(0,_),(1,_)] func129 rfl ntmps129 sM rfl fun w0 hs=>?_
 have ha0:=ha
 have hb0:=hb
 refine Wt 11 [0] hs rfl<|Zy hs (Y_cmpF rfl rfl rfl oM<|Wp 8 [0,0] hs rfl<|Zl [0,1,5] (fun m E w=>∃ (k:Nat) (G2:Ghost),k≤l.length∧m=l.length-k∧E=⟨[],[(0,(.slice Aa l.length ca)),(1,(.slice Ab l.length cb)),(5,Vi (k:Int))]⟩∧St ⟨w0,G,feet []⟩ G2 [] w) rfl (⟨0,_,by omega,rfl,rfl,hs⟩) fun m E w hI=>?_)
 obtain ⟨k,G2,hk,rfl,rfl,hs⟩:=hI
 have ha:=ha0.mono hs.le
 have hb:=hb0.mono hs.le
 refine Wt 6 [] hs rfl<|Zy hs (Yc rfl (fun h14=>?_) fun h14=>?_)
 ·
  refine Wp 6 [0] hs rfl<|T_drawS [0,1,2,3,4,5,6,7,8,9,10,11,12,13,14,15,16,17,18,19,20,21,22,23,24] hs kR ?_
  replace hs:=hs.drew
  refine Xr [0,1] [] hs rfl<|Xt 2 hs rfl (Y_idxS ha k underlying108 sizeOf122 rfl rfl rfl oM fun p19 c19 hp19 hc19 hR19=>?_)
  obtain ⟨u19,rfl,hv19⟩:=hR19
  obtain ⟨A19,c19,rfl⟩:=LstR.slice hv19
  refine Xt 3 hs rfl (Y_fieldAddrP O122_1.p rfl<|Xt 4 hs rfl (Yg rfl (hp19 1 (.bool l[k].lz) rfl)<|Xr [5,6] [] hs rfl<|Xt 7 hs rfl (Y_idxS hb k underlying108 sizeOf122 rfl rfl rfl oM fun p24 c24 hp24 hc24 hR24=>?_)))
  obtain ⟨u24,rfl,hv24⟩:=hR24
  obtain ⟨A24,c24,rfl⟩:=LstR.slice hv24
  refine Xt 8 hs rfl (Y_fieldAddrP O122_1.p rfl<|Xt 9 hs rfl (Yg rfl (hp24 1 (.bool l[k].lz) rfl)<|Xt 10 hs rfl (Y_boolNe0 underlying4 rfl rfl<|Xr [11,12,13] [] hs rfl<|Xt 14 hs rfl (Y_idxS ha k underlying108 sizeOf122 rfl rfl rfl oM fun p31 c31 hp31 hc31 hR31=>?_))))
  obtain ⟨u31,rfl,hv31⟩:=hR31
  obtain ⟨A31,c31,rfl⟩:=LstR.slice hv31
  refine Xt 15 hs rfl (Y_fieldAddrP O122_0.p rfl<|Xt 16 hs rfl (Yg rfl (hp31 0 (.slice A31 l[k].r.length c31) rfl)<|Xr [17,18] [] hs rfl<|Xt 19 hs rfl (Y_idxS hb k underlying108 sizeOf122 rfl rfl rfl oM fun p36 c36 hp36 hc36 hR36=>?_)))
  obtain ⟨u36,rfl,hv36⟩:=hR36
  obtain ⟨A36,c36,rfl⟩:=LstR.slice hv36
  refine Xt 20 hs rfl (Y_fieldAddrP O122_0.p rfl<|Xt 21 hs rfl (Yg rfl (hp36 0 (.slice A36 l[k].r.length c36) rfl) ?_))
  have hle:=hs.le
  refine Xo 22 rfl (Sc (rsrx_ok hv31 hv36 (hlz _ (List.getElem_mem _))) hs rfl fun v1 G' H' _ hR hG39 hs=>?_)
  obtain ⟨rfl,rfl⟩:=hR
  replace hs:=hs.n rfl
  refine A_moreS hs hle hG39 (List.Sublist.refl _)<|Xr [23,24] [] hs rfl<|Xe (Zk [0,1,5,41] rfl<|Wu 4 [] hs rfl<|Zy hs (Ya (s:=((k+1:Nat):Int)) rfl<|Wp 1 [] hs rfl<|Zx [0,1,5] rfl ⟨k+1,_,by omega,rfl,rfl,hs⟩))
 refine Wp 3 [0] hs rfl<|Wu 4 [0] hs rfl<|T_ret<|Zz results129 rfl ?_
 exact ⟨_,[],hs.done,rfl,rfl⟩
theorem rsop_ok {G:Ghost} {op:OpV} {Ao1 An1 Ao2 An2:Option Addr} {co1 cn1 co2 cn2:Nat} (ho1:Bytes G (.slice Ao1 op.old.length co1) op.old) (hn1:Bytes G (.slice An1 op.new.length cn1) op.new) (ho2:Bytes G (.slice Ao2 op.old.length co2) op.old) (hn2:Bytes G (.slice An2 op.new.length cn2) op.new) :
  FnOk prog 128 [.agg #[Vi op.kind,.slice Ao1 op.old.length co1,.slice An1 op.new.length cn1],.agg #[Vi op.kind,.slice Ao2 op.old.length co2,.slice An2 op.new.length cn2]] G [] fun r _ H'=>H'=[]∧r=Vt:=by
 refine FnOk.of_T [(0,_),(1,_)] func128 rfl ntmps128 sM rfl fun w0 hs=>?_
 have ho10:=ho1
 have hn10:=hn1
 have ho20:=ho2
 have hn20:=hn2
 refine Wt 2 [] hs rfl<|O_s (Sb hs rfl fun b2 _ hs=>O_s (Sb hs rfl fun b3 _ hs=>Wp 8 [0,0,1,0,0] hs rfl<|Zy hs (Y_cmpT rfl rfl rfl (rfl)<|Wp 3 [1,1] hs rfl<|Zg hs rfl (Y_str underlying99 underlying5 underlying9 rfl ho1<|Wp 2 [1,0] hs rfl<|Zg hs rfl (Y_str underlying99 underlying5 underlying9 rfl ho2<|Zg hs rfl (Y_strEqS (a:=op.old) (b:=op.old) rfl rfl (fun _=>?_) (fun h=>absurd rfl h)))))))
 refine Wp 4 [2,1] hs rfl<|Zg hs rfl (Y_str underlying99 underlying5 underlying9 rfl hn1<|Wp 2 [2,0] hs rfl<|Zg hs rfl (Y_str underlying99 underlying5 underlying9 rfl hn2<|Zg hs rfl (Y_strEqS (a:=op.new) (b:=op.new) rfl rfl (fun _=>?_) (fun h=>absurd rfl h))))
 refine Wp 3 [1,4] hs rfl<|T_ret<|Zz results128 rfl ?_
 exact ⟨_,[],hs.done,rfl,rfl⟩
theorem rscd_ok {G:Ghost} {cd:CondM} {Ar1 Ar2:Option Addr} {cr1 cr2:Nat} (hr1:Rx G (.slice Ar1 cd.r.length cr1) cd.r) (hr2:Rx G (.slice Ar2 cd.r.length cr2) cd.r) (hl:cd.r.length≤1000000) :
  FnOk prog 130 [.agg #[Vi cd.kind,.bool cd.neg,Vi cd.x,Vi cd.y,Vi cd.n,Vi cd.k,.slice Ar1 cd.r.length cr1],.agg #[Vi cd.kind,.bool cd.neg,Vi cd.x,Vi cd.y,Vi cd.n,Vi cd.k,.slice Ar2 cd.r.length cr2]] G [] fun r _ H'=>H'=[]∧r=Vt:=by
 refine FnOk.of_T [(0,_),(1,_)] func130 rfl ntmps130 sM rfl fun w0 hs=>?_
 have hr10:=hr1
 have hr20:=hr2
 refine Wt 2 [] hs rfl<|O_s (Sb hs rfl fun b2 _ hs=>O_s (Sb hs rfl fun b3 _ hs=>Wp 8 [0,0,1,0,0] hs rfl<|Zy hs (Y_cmpT rfl rfl rfl (rfl)<|Wp 5 [1,1,1,0] hs rfl<|Zg hs rfl (Y_boolEqS underlying4 rfl rfl (fun _=>?_) (fun h=>absurd rfl h)))))
 refine Wp 6 [2,1,2,0] hs rfl<|Zg hs rfl (Y_cmpT rfl rfl rfl (rfl)<|Wp 6 [3,1,3,0] hs rfl<|Zg hs rfl (Y_cmpT rfl rfl rfl (rfl)<|Wp 6 [4,1,4,0] hs rfl<|Zg hs rfl (Y_cmpT rfl rfl rfl (rfl)<|Wp 6 [5,1,5,0] hs rfl<|Zg hs rfl (Y_cmpT rfl rfl rfl (rfl)<|Wp 6 [6,1,6,0] hs rfl<|O_yes 45 rfl rfl (Sc (rsrx_ok hr1 hr2 hl) hs rfl fun v1 G' H' _ hR hG50 hs=>?_)))))
 obtain ⟨rfl,rfl⟩:=hR
 replace hs:=hs.n rfl
 refine Wp 3 [1,4] hs rfl<|T_ret<|Zz results130 rfl ?_
 exact ⟨_,[],hs.done,rfl,rfl⟩
theorem rsst_ok {G:Ghost} {sm:StmtM} {Ab1 Ao1 An1 Ap1 Ay1 Ar1 Ab2 Ao2 An2 Ap2 Ay2 Ar2:Option Addr} {cb1 co1 cn1 cp1 cy1 cr1 cb2 co2 cn2 cp2 cy2 cr2:Nat} (hb1:Bytes G (.slice Ab1 sm.b.length cb1) sm.b) (ho1:Bytes G (.slice Ao1 sm.op.old.length co1) sm.op.old) (hn1:Bytes G (.slice An1 sm.op.new.length cn1) sm.op.new) (hp1:Pat G (.slice Ap1 sm.p.length cp1) sm.p) (hy1:Ints G (.slice Ay1 sm.ys.length cy1) sm.ys) (hr1:Rx G (.slice Ar1 sm.cond.r.length cr1) sm.cond.r) (hb2:Bytes G (.slice Ab2 sm.b.length cb2) sm.b) (ho2:Bytes G (.slice Ao2 sm.op.old.length co2) sm.op.old) (hn2:Bytes G (.slice An2 sm.op.new.length cn2) sm.op.new) (hp2:Pat G (.slice Ap2 sm.p.length cp2) sm.p) (hy2:Ints G (.slice Ay2 sm.ys.length cy2) sm.ys) (hr2:Rx G (.slice Ar2 sm.cond.r.length cr2) sm.cond.r) (hz:szS sm=true) (hw:∀ x∈[sm.c0,sm.c1,sm.c2,sm.c3],x<W64) :
  FnOk prog 88 [.agg #[Vi sm.kind,Vi sm.x,Vi sm.y,Vi sm.z,Vi sm.n,Vi sm.i,Vi sm.j,.slice Ab1 sm.b.length cb1,.bool sm.last,Vi sm.op.kind,.slice Ao1 sm.op.old.length co1,.slice An1 sm.op.new.length cn1,u64V sm.c0,u64V sm.c1,u64V sm.c2,u64V sm.c3,Vi sm.rule.base,Vi sm.rule.digits,Vi sm.rule.top,Vi sm.rule.over,.bool sm.rule.zeros,.slice Ap1 sm.p.length cp1,.slice Ay1 sm.ys.length cy1,Vi sm.cond.kind,.bool sm.cond.neg,Vi sm.cond.x,Vi sm.cond.y,Vi sm.cond.n,Vi sm.cond.k,.slice Ar1 sm.cond.r.length cr1,strV sm.name,Vi sm.thn,Vi sm.els],.agg #[Vi sm.kind,Vi sm.x,Vi sm.y,Vi sm.z,Vi sm.n,Vi sm.i,Vi sm.j,.slice Ab2 sm.b.length cb2,.bool sm.last,Vi sm.op.kind,.slice Ao2 sm.op.old.length co2,.slice An2 sm.op.new.length cn2,u64V sm.c0,u64V sm.c1,u64V sm.c2,u64V sm.c3,Vi sm.rule.base,Vi sm.rule.digits,Vi sm.rule.top,Vi sm.rule.over,.bool sm.rule.zeros,.slice Ap2 sm.p.length cp2,.slice Ay2 sm.ys.length cy2,Vi sm.cond.kind,.bool sm.cond.neg,Vi sm.cond.x,Vi sm.cond.y,Vi sm.cond.n,Vi sm.cond.k,.slice Ar2 sm.cond.r.length cr2,strV sm.name,Vi sm.thn,Vi sm.els]] G [] fun r _ H'=>H'=[]∧r=Vt:=by
 have hz2:=szS_iff hz
 refine FnOk.of_T [(0,_),(1,_)] func88 rfl ntmps88 sM rfl fun w0 hs=>?_
 have hb10:=hb1
 have ho10:=ho1
 have hn10:=hn1
 have hp10:=hp1
 have hy10:=hy1
 have hr10:=hr1
 have hb20:=hb2
 have ho20:=ho2
 have hn20:=hn2
 have hp20:=hp2
 have hy20:=hy2
 have hr20:=hr2
 refine Wt 2 [] hs rfl<|O_s (Sb hs rfl fun b2 _ hs=>O_s (Sb hs rfl fun b3 _ hs=>Wp 8 [0,0,1,0,0] hs rfl<|Zy hs (Y_cmpT rfl rfl rfl (rfl)<|Wp 5 [1,1,1,0] hs rfl<|Zg hs rfl (Y_cmpT rfl rfl rfl (rfl)<|Wp 6 [2,1,2,0] hs rfl<|Zg hs rfl (Y_cmpT rfl rfl rfl (rfl)<|Wp 6 [3,1,3,0] hs rfl<|Zg hs rfl (Y_cmpT rfl rfl rfl (rfl)<|Wp 6 [4,1,4,0] hs rfl<|Zg hs rfl (Y_cmpT rfl rfl rfl (rfl)<|Wp 6 [5,1,5,0] hs rfl<|Zg hs rfl (Y_cmpT rfl rfl rfl (rfl)<|Wp 6 [6,1,6,0] hs rfl<|Zg hs rfl (Y_cmpT rfl rfl rfl (rfl)<|Wp 7 [3,2,3,5,7,1] hs rfl<|Zy hs (Y_str underlying99 underlying5 underlying9 rfl hb1<|Wp 2 [7,0] hs rfl<|Zy hs (Y_str underlying99 underlying5 underlying9 rfl hb2<|Zy hs (Y_strEqS (a:=sm.b) (b:=sm.b) rfl rfl (fun _=>?_) (fun h=>absurd rfl h)))))))))))))
 refine Wp 5 [8,1,8,0] hs rfl<|Zg hs rfl (Y_boolEqS underlying4 rfl rfl (fun _=>?_) (fun h=>absurd rfl h))
 refine Wp 6 [9,1,9,0] hs rfl<|O_yes 68 rfl rfl (Sc (rsop_ok (op:=sm.op) ho1 hn1 ho2 hn2) hs rfl fun v1 G' H' _ hR hG73 hs=>?_)
 obtain ⟨rfl,rfl⟩:=hR
 replace hs:=hs.n rfl
 replace hp1:=hp1.mono hG73
 replace hy1:=hy1.mono hG73
 replace hr1:=hr1.mono hG73
 replace hp2:=hp2.mono hG73
 replace hy2:=hy2.mono hG73
 replace hr2:=hr2.mono hG73
 refine Wp 6 [12,1,12,0] hs rfl<|Zg hs rfl (Y_eqlWS (a:=[sm.c0,sm.c1,sm.c2,sm.c3]) (b:=[sm.c0,sm.c1,sm.c2,sm.c3]) underlying104 sizeOf102 isAgg102 underlying102 kR rfl rfl rfl rfl hw hw (fun _=>?_) (fun h=>absurd rfl h))
 refine Wp 6 [16,1,16,0] hs rfl<|Zg hs rfl (Y_eqlRule (a:=sm.rule) (b:=sm.rule) rfl kR rfl rfl (fun _=>?_) (fun h=>absurd rfl h))
 refine Wp 6 [21,1,21,0] hs rfl<|O_yes 89 rfl rfl (Sc (rspt_ok hp1 hp2 oM (fun p hp=>by have:=hz2.2 p hp;omega)) hs rfl fun v2 G' H' _ hR hG94 hs=>?_)
 obtain ⟨rfl,rfl⟩:=hR
 replace hs:=hs.n rfl
 replace hy1:=hy1.mono hG94
 replace hr1:=hr1.mono hG94
 replace hy2:=hy2.mono hG94
 replace hr2:=hr2.mono hG94
 refine Wp 14 [4,2,3,5,6,22,1,22,0] hs rfl<|O_yes 100 rfl rfl (Sc (rsin_ok hy1 hy2 oM) hs rfl fun v3 G' H' _ hR hG105 hs=>?_)
 obtain ⟨rfl,rfl⟩:=hR
 replace hs:=hs.n rfl
 replace hr1:=hr1.mono hG105
 replace hr2:=hr2.mono hG105
 rw [show decide (sm.ys=sm.ys)=true from decide_eq_true rfl]
 refine Wp 6 [23,1,23,0] hs rfl<|O_yes 107 rfl rfl (Sc (rscd_ok (cd:=sm.cond) hr1 hr2 oM) hs rfl fun v4 G' H' _ hR hG112 hs=>?_)
 obtain ⟨rfl,rfl⟩:=hR
 replace hs:=hs.n rfl
 refine Wp 6 [30,1,30,0] hs rfl<|Zg hs rfl (Y_strEqS (a:=sm.name) (b:=sm.name) rfl rfl (fun _=>?_) (fun h=>absurd rfl h))
 refine Wp 6 [31,1,31,0] hs rfl<|Zg hs rfl (Y_cmpT rfl rfl rfl (rfl)<|Wp 6 [32,1,32,0] hs rfl<|Zg hs rfl (Y_cmpT rfl rfl rfl (rfl)<|Wp 3 [1,4] hs rfl<|T_ret<|Zz results88 rfl ?_))
 exact ⟨_,[],hs.done,rfl,rfl⟩
def wS (s:StmtM):Bool:=decide (s.c0<W64∧s.c1<W64∧s.c2<W64∧s.c3<W64)
def wP (p:ProgM):Bool:=p.stmts.all wS
theorem wP_at {p:ProgM} (h:wP p=true) {s:StmtM} (hs:s∈p.stmts):∀ x∈[s.c0,s.c1,s.c2,s.c3],x<W64:=by
  have h1:=of_decide_eq_true (List.all_eq_true.1 h s hs)
  intro x hx
  simp only [List.mem_cons,List.not_mem_nil,or_false] at hx
  rcases hx with rfl | rfl | rfl | rfl
  · exact h1.1
  · exact h1.2.1
  · exact h1.2.2.1
  · exact h1.2.2.2
def edgG (a b:Int):Nat→List (Int×Int)→Int
  | _,[]=>-1
  | i,e::l=>if e.1=a∧e.2=b then (i:Int) else edgG a b (i+1) l
theorem edgG_nn {a b:Int}:∀ (l:List (Int×Int)) (i:Nat),0≤edgG a b i l↔(a,b)∈l
  | [],i=>by simp [edgG]
  | e::l,i=>by
    rw [edgG,List.mem_cons]
    split
    · rename_i h
      obtain ⟨e1,e2⟩:=e
      dsimp only at h
      constructor
      · intro _;left;rw [h.1,h.2]
      · intro _;omega
    · rename_i h
      rw [edgG_nn l (i+1)]
      constructor
      · intro h2;exact .inr h2
      · rintro (h2 | h2)
        · exact absurd ⟨by rw [← h2],by rw [← h2]⟩ h
        · exact h2
theorem rspg_ok {G:Ghost} {p:ProgM} {As1 As2 Aq1 Aq2:Option Addr} {cs1 cs2 cq1 cq2:Nat} (hS1:Sts G (.slice As1 p.stmts.length cs1) p.stmts) (hB1:LN G (.slice Aq1 p.blocks.length cq1) p.blocks) (hS2:Sts G (.slice As2 p.stmts.length cs2) p.stmts) (hB2:LN G (.slice Aq2 p.blocks.length cq2) p.blocks) (hz:szP p=true) (hw:wP p=true) :
  FnOk prog 56 [.agg #[.slice As1 p.stmts.length cs1,.slice Aq1 p.blocks.length cq1],.agg #[.slice As2 p.stmts.length cs2,.slice Aq2 p.blocks.length cq2]] G [] fun r _ H'=>H'=[]∧r=Vt:=by
 have hz2:=szP_iff hz
 refine FnOk.of_T [(0,_),(1,_)] func56 rfl ntmps56 sM rfl fun w0 hs=>?_
 have hS10:=hS1
 have hB10:=hB1
 have hS20:=hS2
 have hB20:=hB2
 refine Wt 2 [] hs rfl<|O_s (Sb hs rfl fun b2 _ hs=>O_s (Sb hs rfl fun b3 _ hs=>Wp 11 [0,0,1,0,0] hs rfl<|Zy hs (Y_cmpF rfl rfl rfl oM<|Wp 7 [1,1,1,0] hs rfl<|Zg hs rfl (Y_cmpF rfl rfl rfl oM<|Wp 9 [3,2,3,22,0] hs rfl ?_))))
 have hs:=hs.f1
 refine Zl [2,3,5] (fun m E w=>∃ (k:Nat) (G2:Ghost),k≤p.stmts.length∧m=p.stmts.length-k∧E=⟨[],[(2,Vp b2),(3,Vp b3),(5,Vi (k:Int))]⟩∧St ⟨w0,G,feet []⟩ G2 [.blk b2 70 [.slice As1 p.stmts.length cs1,.slice Aq1 p.blocks.length cq1],.blk b3 70 [.slice As2 p.stmts.length cs2,.slice Aq2 p.blocks.length cq2]] w) rfl (⟨0,_,by omega,rfl,rfl,hs⟩) fun m E w hI=>?_
 obtain ⟨k,G2,hk,rfl,rfl,hs⟩:=hI
 have hS1:=hS10.mono hs.le
 have hB1:=hB10.mono hs.le
 have hS2:=hS20.mono hs.le
 have hB2:=hB20.mono hs.le
 refine Wt 7 [0,0] hs rfl<|Zy hs (Yc rfl (fun h27=>?_) fun h27=>?_)
 ·
  refine Wp 3 [0] hs rfl ?_
  obtain ⟨sm,hsm⟩:∃ z,z=p.stmts[k]'oM:=⟨_,rfl⟩
  refine Wu 3 [] hs rfl<|T_drawS [0,1,2,3,4,5,6,7,8,9,10,11] hs kR ?_
  replace hs:=hs.drew
  refine Xr [0,1,2] [0,0] hs rfl<|Xt 3 hs rfl (Y_idxS hS1 k underlying68 sizeOf114 rfl rfl rfl oM fun p33 c33 hp33 hc33 hR33=>?_)
  rw [← hsm] at hR33
  obtain ⟨wb1,wo1,wn1,wp1,wy1,wr1,rfl,⟨hb1,_⟩,⟨ho1,_⟩,⟨hn1,_⟩,⟨hp1,_⟩,⟨hy1,_⟩,⟨hr1,_⟩⟩:=hR33
  obtain ⟨Ab1,cb1,rfl,_⟩:=id hb1
  obtain ⟨Ao1,co1,rfl,_⟩:=id ho1
  obtain ⟨An1,cn1,rfl,_⟩:=id hn1
  obtain ⟨Ap1,cp1,rfl⟩:=LstR.slice hp1
  obtain ⟨Ay1,cy1,rfl,_⟩:=id hy1
  obtain ⟨Ar1,cr1,rfl⟩:=LstR.slice hr1
  refine Xt 4 hs rfl (Y_ldAG (vs:=stmC sm (.slice Ab1 sm.b.length cb1) (.slice Ao1 sm.op.old.length co1) (.slice An1 sm.op.new.length cn1) (.slice Ap1 sm.p.length cp1) (.slice Ay1 sm.ys.length cy1) (.slice Ar1 sm.cond.r.length cr1)) isAgg114 sizeOf114 rfl hp33 rfl<|Xr [5,6,7] [0,1] hs rfl<|Xt 8 hs rfl (Y_idxS hS2 k underlying68 sizeOf114 rfl rfl rfl oM fun p38 c38 hp38 hc38 hR38=>?_))
  rw [← hsm] at hR38
  obtain ⟨wb2,wo2,wn2,wp2,wy2,wr2,rfl,⟨hb2,_⟩,⟨ho2,_⟩,⟨hn2,_⟩,⟨hp2,_⟩,⟨hy2,_⟩,⟨hr2,_⟩⟩:=hR38
  obtain ⟨Ab2,cb2,rfl,_⟩:=id hb2
  obtain ⟨Ao2,co2,rfl,_⟩:=id ho2
  obtain ⟨An2,cn2,rfl,_⟩:=id hn2
  obtain ⟨Ap2,cp2,rfl⟩:=LstR.slice hp2
  obtain ⟨Ay2,cy2,rfl,_⟩:=id hy2
  obtain ⟨Ar2,cr2,rfl⟩:=LstR.slice hr2
  refine Xt 9 hs rfl (Y_ldAG (vs:=stmC sm (.slice Ab2 sm.b.length cb2) (.slice Ao2 sm.op.old.length co2) (.slice An2 sm.op.new.length cn2) (.slice Ap2 sm.p.length cp2) (.slice Ay2 sm.ys.length cy2) (.slice Ar2 sm.cond.r.length cr2)) isAgg114 sizeOf114 rfl hp38 rfl ?_)
  have hle:=hs.le
  refine Xo 10 rfl (Sc (rsst_ok hb1 ho1 hn1 hp1 hy1 hr1 hb2 ho2 hn2 hp2 hy2 hr2 (hz2.2.1 sm (by rw [hsm];exact List.getElem_mem _)) (wP_at hw (by rw [hsm];exact List.getElem_mem _))) hs rfl fun v1 G' H' _ hR hG40 hs=>?_)
  obtain ⟨rfl,rfl⟩:=hR
  replace hs:=hs.n rfl
  refine A_moreS hs hle hG40 (List.Sublist.refl _)<|Xr [11] [] hs rfl<|Xe (Zk [2,3,5,41] rfl<|Wu 4 [] hs rfl<|Zy hs (Ya (s:=((k+1:Nat):Int)) rfl<|Wp 1 [] hs rfl ?_))
  have hs:=hs.f1.f1
  refine Zx [2,3,5] rfl ⟨k+1,_,by omega,rfl,rfl,hs.weak hs.le (Ghost.le.refl _) (List.sublist_append_left [_,_] _)⟩
 refine Wp 3 [0] hs rfl<|Wu 5 [0] hs rfl ?_
 have hs:=hs.f1.f1
 refine Zl [2,3,6] (fun m E w=>∃ (k:Nat) (G2:Ghost),k≤p.blocks.length∧m=p.blocks.length-k∧E=⟨[],[(2,Vp b2),(3,Vp b3),(6,Vi (k:Int))]⟩∧St ⟨w0,G,feet []⟩ G2 [.blk b2 70 [.slice As1 p.stmts.length cs1,.slice Aq1 p.blocks.length cq1],.blk b3 70 [.slice As2 p.stmts.length cs2,.slice Aq2 p.blocks.length cq2]] w) rfl (⟨0,_,by omega,rfl,rfl,hs⟩) fun m E w hI=>?_
 obtain ⟨k,G2,hk,rfl,rfl,hs⟩:=hI
 have hS1:=hS10.mono hs.le
 have hB1:=hB10.mono hs.le
 have hS2:=hS20.mono hs.le
 have hB2:=hB20.mono hs.le
 refine Wt 7 [1,0] hs rfl<|Zy hs (Yc rfl (fun h46=>?_) fun h46=>?_)
 ·
  refine Wp 3 [0] hs rfl ?_
  obtain ⟨bl,hbl⟩:∃ z,z=p.blocks[k]'oM:=⟨_,rfl⟩
  refine Wu 3 [] hs rfl<|T_drawS [0,1,2,3,4,5,6,7,8,9,10,11] hs kR ?_
  replace hs:=hs.drew
  refine Xr [0,1,2] [1,0] hs rfl<|Xt 3 hs rfl (Y_idxS hB1 k underlying36 sizeOf45 rfl rfl rfl oM fun p52 c52 hp52 hc52 hR52=>?_)
  rw [← hbl] at hR52
  obtain ⟨u52,rfl,hv52⟩:=hR52
  obtain ⟨A52,c52,rfl,_⟩:=id hv52
  refine Xt 4 hs rfl (Yg rfl (hp52 0 (.slice A52 bl.length c52) rfl)<|Xr [5,6,7] [1,1] hs rfl<|Xt 8 hs rfl (Y_idxS hB2 k underlying36 sizeOf45 rfl rfl rfl oM fun p57 c57 hp57 hc57 hR57=>?_))
  rw [← hbl] at hR57
  obtain ⟨u57,rfl,hv57⟩:=hR57
  obtain ⟨A57,c57,rfl,_⟩:=id hv57
  refine Xt 9 hs rfl (Yg rfl (hp57 0 (.slice A57 bl.length c57) rfl) ?_)
  have hle:=hs.le
  refine Xo 10 rfl (Sc (rsin_ok (natsI hv52) (natsI hv57) (by rw [List.length_map];have:=hz2.2.2 bl (by rw [hbl];exact List.getElem_mem _);omega)) hs rfl fun v2 G' H' _ hR hG59 hs=>?_)
  obtain ⟨rfl,rfl⟩:=hR
  replace hs:=hs.n rfl
  rw [decide_eq_true rfl]
  refine A_moreS hs hle hG59 (List.Sublist.refl _)<|Xr [11] [] hs rfl<|Xe (Zk [2,3,6,60] rfl<|Wu 4 [] hs rfl<|Zy hs (Ya (s:=((k+1:Nat):Int)) rfl<|Wp 1 [] hs rfl ?_))
  have hs:=hs.f1.f1
  refine Zx [2,3,6] rfl ⟨k+1,_,by omega,rfl,rfl,hs.weak hs.le (Ghost.le.refl _) (List.sublist_append_left [_,_] _)⟩
 refine Wp 3 [0] hs rfl<|Wu 4 [0] hs rfl<|T_ret<|Zz results56 rfl ?_
 exact ⟨_,[],hs.done,rfl,rfl⟩
theorem rsnd_ok {G:Ghost} {x:NodM} {Av1 Av2:Option Addr} {cv1 cv2:Nat} (h1:Ints G (.slice Av1 x.vers.length cv1) x.vers) (h2:Ints G (.slice Av2 x.vers.length cv2) x.vers) (hn:x.vers.length≤1000000) :
  FnOk prog 29 [.agg #[.slice Av1 x.vers.length cv1,Vi x.runs,Vi x.claims,.bool x.up],.agg #[.slice Av2 x.vers.length cv2,Vi x.runs,Vi x.claims,.bool x.up]] G [] fun r _ H'=>H'=[]∧r=Vt:=by
 refine FnOk.of_T [(0,_),(1,_)] func29 rfl ntmps29 sM rfl fun w0 hs=>?_
 have h10:=h1
 have h20:=h2
 refine Wt 2 [] hs rfl<|O_s (Sb hs rfl fun b2 _ hs=>O_s (Sb hs rfl fun b3 _ hs=>Wp 8 [0,0,1,0,0] hs rfl<|O_s (Sc (rsin_ok h1 h2 hn) hs rfl fun v1 G' H' _ hR hG9 hs=>?_)))
 obtain ⟨rfl,rfl⟩:=hR
 replace hs:=hs.n rfl
 rw [decide_eq_true rfl]
 refine Wp 5 [1,1,1,0] hs rfl<|Zg hs rfl (Y_cmpT rfl rfl rfl (rfl)<|Wp 6 [2,1,2,0] hs rfl<|Zg hs rfl (Y_cmpT rfl rfl rfl (rfl)<|Wp 6 [3,1,3,0] hs rfl<|Zg hs rfl (Y_boolEqS underlying4 rfl rfl (fun _=>?_) (fun h=>absurd rfl h))))
 refine Wp 3 [1,4] hs rfl<|T_ret<|Zz results29 rfl ?_
 exact ⟨_,[],hs.done,rfl,rfl⟩
theorem rsfl_ok {G:Ghost} {f:FltM} {Ap1 An1 Ae1 Ar1 Ap2 An2 Ae2 Ar2:Option Addr} {cp1 cn1 ce1 cr1 cp2 cn2 ce2 cr2:Nat} (hf1:FltC G Ap1 An1 Ae1 Ar1 cp1 cn1 ce1 cr1 f) (hf2:FltC G Ap2 An2 Ae2 Ar2 cp2 cn2 ce2 cr2 f) (hz:FSz f) (hsz:∀ p∈f.progs,szP p=true) (hw:∀ p∈f.progs,wP p=true) (hpl:f.progs.length≤1000) (hrl:f.routes.length≤1000) :
  FnOk prog 28 [.agg #[.slice Ap1 f.progs.length cp1,.slice An1 f.nodes.length cn1,.slice Ae1 f.edges.length ce1,.slice Ar1 f.routes.length cr1],.agg #[.slice Ap2 f.progs.length cp2,.slice An2 f.nodes.length cn2,.slice Ae2 f.edges.length ce2,.slice Ar2 f.routes.length cr2]] G [] fun r _ H'=>H'=[]∧r=Vt:=by
 have hnz:=hz.n
 have hez:=hz.e
 refine FnOk.of_T [(0,_),(1,_)] func28 rfl ntmps28 sM rfl fun w0 hs=>?_
 have hf10:=hf1
 have hf20:=hf2
 refine Wt 2 [] hs rfl<|O_s (Sb hs rfl fun b2 _ hs=>O_s (Sb hs rfl fun b3 _ hs=>Wp 11 [0,0,1,0,0] hs rfl<|Zy hs (Y_cmpF rfl rfl rfl oM<|Wp 7 [1,1,1,0] hs rfl<|Zg hs rfl (Y_cmpF rfl rfl rfl oM<|Wp 6 [2,1,2,0] hs rfl<|O_yes 23 rfl rfl (Sc (rspr_ok hf1.e hf2.e oM) hs rfl fun v1 G' H' _ hR hG28 hs=>?_)))))
 obtain ⟨rfl,rfl⟩:=hR
 replace hs:=hs.n rfl
 replace hf1:=hf1.mono hG28
 replace hf2:=hf2.mono hG28
 refine Wp 7 [3,1,3,0] hs rfl<|O_yes 31 rfl rfl (Sc (rsls_ok hf1.r hf2.r oM (fun r hr=>by have:=hz.r r hr;omega)) hs rfl fun v2 G' H' _ hR hG36 hs=>?_)
 obtain ⟨rfl,rfl⟩:=hR
 replace hs:=hs.n rfl
 replace hf1:=hf1.mono hG36
 replace hf2:=hf2.mono hG36
 refine Wp 10 [3,2,3,38,0] hs rfl ?_
 have hs:=hs.f1
 refine Zl [2,3,5] (fun m E w=>∃ (k:Nat) (G2:Ghost),k≤f.progs.length∧m=f.progs.length-k∧E=⟨[],[(2,Vp b2),(3,Vp b3),(5,Vi (k:Int))]⟩∧St ⟨w0,G,feet []⟩ G2 [.blk b2 38 [.slice Ap1 f.progs.length cp1,.slice An1 f.nodes.length cn1,.slice Ae1 f.edges.length ce1,.slice Ar1 f.routes.length cr1],.blk b3 38 [.slice Ap2 f.progs.length cp2,.slice An2 f.nodes.length cn2,.slice Ae2 f.edges.length ce2,.slice Ar2 f.routes.length cr2]] w) rfl (⟨0,_,by omega,rfl,rfl,hs⟩) fun m E w hI=>?_
 obtain ⟨k,G2,hk,rfl,rfl,hs⟩:=hI
 have hf1:=hf10.mono hs.le
 have hf2:=hf20.mono hs.le
 refine Wt 7 [0,0] hs rfl<|Zy hs (Yc rfl (fun h43=>?_) fun h43=>?_)
 ·
  refine Wp 3 [0] hs rfl ?_
  obtain ⟨q,hq⟩:∃ z,z=f.progs[k]'oM:=⟨_,rfl⟩
  refine Wu 3 [] hs rfl<|T_drawS [0,1,2,3,4,5,6,7,8,9,10,11] hs kR ?_
  replace hs:=hs.drew
  refine Xr [0,1,2] [0,0] hs rfl<|Xt 3 hs rfl (Y_idxS hf1.p k underlying33 sizeOf70 rfl rfl rfl oM fun p49 c49 hp49 hc49 hR49=>?_)
  rw [← hq] at hR49
  obtain ⟨us1,ub1,rfl,⟨hS1,_⟩,⟨hB1,_⟩⟩:=hR49
  obtain ⟨As1,cs1,rfl⟩:=LstR.slice hS1
  obtain ⟨Aq1,cq1,rfl⟩:=LstR.slice hB1
  refine Xt 4 hs rfl (Y_ldAG (vs:=[.slice As1 q.stmts.length cs1,.slice Aq1 q.blocks.length cq1]) isAgg70 sizeOf70 rfl hp49 rfl<|Xr [5,6,7] [0,1] hs rfl<|Xt 8 hs rfl (Y_idxS hf2.p k underlying33 sizeOf70 rfl rfl rfl oM fun p54 c54 hp54 hc54 hR54=>?_))
  rw [← hq] at hR54
  obtain ⟨us2,ub2,rfl,⟨hS2,_⟩,⟨hB2,_⟩⟩:=hR54
  obtain ⟨As2,cs2,rfl⟩:=LstR.slice hS2
  obtain ⟨Aq2,cq2,rfl⟩:=LstR.slice hB2
  refine Xt 9 hs rfl (Y_ldAG (vs:=[.slice As2 q.stmts.length cs2,.slice Aq2 q.blocks.length cq2]) isAgg70 sizeOf70 rfl hp54 rfl ?_)
  have hle:=hs.le
  refine Xo 10 rfl (Sc (rspg_ok (p:=q) hS1 hB1 hS2 hB2 (hsz q (by rw [hq];exact List.getElem_mem _)) (hw q (by rw [hq];exact List.getElem_mem _))) hs rfl fun v3 G' H' _ hR hG56 hs=>?_)
  obtain ⟨rfl,rfl⟩:=hR
  replace hs:=hs.n rfl
  refine A_moreS hs hle hG56 (List.Sublist.refl _)<|Xr [11] [] hs rfl<|Xe (Zk [2,3,5,57] rfl<|Wu 4 [] hs rfl<|Zy hs (Ya (s:=((k+1:Nat):Int)) rfl<|Wp 1 [] hs rfl ?_))
  have hs:=hs.f1.f1
  refine Zx [2,3,5] rfl ⟨k+1,_,by omega,rfl,rfl,hs.weak hs.le (Ghost.le.refl _) (List.sublist_append_left [_,_] _)⟩
 refine Wp 3 [0] hs rfl<|Wu 5 [0] hs rfl ?_
 have hs:=hs.f1.f1
 refine Zl [2,3,6] (fun m E w=>∃ (k:Nat) (G2:Ghost),k≤f.nodes.length∧m=f.nodes.length-k∧E=⟨[],[(2,Vp b2),(3,Vp b3),(6,Vi (k:Int))]⟩∧St ⟨w0,G,feet []⟩ G2 [.blk b2 38 [.slice Ap1 f.progs.length cp1,.slice An1 f.nodes.length cn1,.slice Ae1 f.edges.length ce1,.slice Ar1 f.routes.length cr1],.blk b3 38 [.slice Ap2 f.progs.length cp2,.slice An2 f.nodes.length cn2,.slice Ae2 f.edges.length ce2,.slice Ar2 f.routes.length cr2]] w) rfl (⟨0,_,by omega,rfl,rfl,hs⟩) fun m E w hI=>?_
 obtain ⟨k,G2,hk,rfl,rfl,hs⟩:=hI
 have hf1:=hf10.mono hs.le
 have hf2:=hf20.mono hs.le
 refine Wt 7 [1,0] hs rfl<|Zy hs (Yc rfl (fun h62=>?_) fun h62=>?_)
 ·
  refine Wp 3 [0] hs rfl ?_
  obtain ⟨x,hx⟩:∃ z,z=f.nodes[k]'oM:=⟨_,rfl⟩
  refine Wu 3 [] hs rfl<|T_drawS [0,1,2,3,4,5,6,7,8,9,10,11] hs kR ?_
  replace hs:=hs.drew
  refine Xr [0,1,2] [1,0] hs rfl<|Xt 3 hs rfl (Y_idxS hf1.n k underlying34 sizeOf61 rfl rfl rfl oM fun p68 c68 hp68 hc68 hR68=>?_)
  rw [← hx] at hR68
  obtain ⟨uv1,rfl,hv1⟩:=hR68
  obtain ⟨Av1,cv1,rfl,_⟩:=id hv1
  refine Xt 4 hs rfl (Y_ldAG (vs:=[.slice Av1 x.vers.length cv1,Vi x.runs,Vi x.claims,.bool x.up]) isAgg61 sizeOf61 rfl hp68 rfl<|Xr [5,6,7] [1,1] hs rfl<|Xt 8 hs rfl (Y_idxS hf2.n k underlying34 sizeOf61 rfl rfl rfl oM fun p73 c73 hp73 hc73 hR73=>?_))
  rw [← hx] at hR73
  obtain ⟨uv2,rfl,hv2⟩:=hR73
  obtain ⟨Av2,cv2,rfl,_⟩:=id hv2
  refine Xt 9 hs rfl (Y_ldAG (vs:=[.slice Av2 x.vers.length cv2,Vi x.runs,Vi x.claims,.bool x.up]) isAgg61 sizeOf61 rfl hp73 rfl ?_)
  have hle:=hs.le
  refine Xo 10 rfl (Sc (rsnd_ok (x:=x) hv1 hv2 (by have:=hz.v x (by rw [hx];exact List.getElem_mem _);omega)) hs rfl fun v4 G' H' _ hR hG75 hs=>?_)
  obtain ⟨rfl,rfl⟩:=hR
  replace hs:=hs.n rfl
  refine A_moreS hs hle hG75 (List.Sublist.refl _)<|Xr [11] [] hs rfl<|Xe (Zk [2,3,6,76] rfl<|Wu 4 [] hs rfl<|Zy hs (Ya (s:=((k+1:Nat):Int)) rfl<|Wp 1 [] hs rfl ?_))
  have hs:=hs.f1.f1
  refine Zx [2,3,6] rfl ⟨k+1,_,by omega,rfl,rfl,hs.weak hs.le (Ghost.le.refl _) (List.sublist_append_left [_,_] _)⟩
 refine Wp 3 [0] hs rfl<|Wu 4 [0] hs rfl<|T_ret<|Zz results28 rfl ?_
 exact ⟨_,[],hs.done,rfl,rfl⟩
theorem redg_ok {G:Ghost} {a b:Int} {wp wr:Value} {An Ae:Option Addr} {nn cn ce:Nat} {es:List (Int×Int)} (hE:Eds G (.slice Ae es.length ce) es) (hez:es.length≤1000) :
  FnOk prog 66 [.agg #[wp,.slice An nn cn,.slice Ae es.length ce,wr],Vi a,Vi b] G [] fun r _ H'=>H'=[]∧r=Vi (edgG a b 0 es):=by
 refine FnOk.of_T [(0,_),(1,_),(2,_)] func66 rfl ntmps66 sM rfl fun w0 hs=>?_
 have hE0:=hE
 refine Wt 2 [] hs rfl<|O_s (Sb hs rfl fun b3 _ hs=>Wp 7 [0,0] hs rfl<|Zl [1,2,3,7] (fun m E w=>∃ (k:Nat) (G2:Ghost),k≤es.length∧edgG a b 0 es=edgG a b k (es.drop k)∧m=es.length-k∧E=⟨[],[(1,Vi a),(2,Vi b),(3,Vp b3),(7,Vi (k:Int))]⟩∧St ⟨w0,G,feet []⟩ G2 [.blk b3 38 [wp,.slice An nn cn,.slice Ae es.length ce,wr]] w) rfl (⟨0,_,by omega,rfl,rfl,rfl,hs⟩) fun m E w hI=>?_)
 obtain ⟨k,G2,hk,hfo,rfl,rfl,hs⟩:=hI
 have hE:=hE0.mono hs.le
 refine Wt 7 [2,0] hs rfl<|Zy hs (Yc rfl (fun h12=>?_) fun h12=>?_)
 ·
  refine Wp 3 [0] hs rfl ?_
  obtain ⟨e,hee⟩:∃ z,z=es[k]'oM:=⟨_,rfl⟩
  refine Wu 7 [2,0] hs rfl<|Zy hs (Y_idxS hE k underlying35 sizeOf31 rfl rfl rfl oM fun p18 c18 hp18 hc18 hR18=>?_)
  rw [← hee] at hR18
  obtain rfl:c18=[Vi e.1,Vi e.2]:=hR18
  refine Zy hs (Y_idxArrP 0 underlying31 sizeOf3 rfl rfl rfl dC<|Zy hs (Yg rfl (hp18 0 (Vi e.1) rfl)<|Wp 1 [] hs rfl<|Zy hs (Yc rfl (fun h22=>?_) fun h22=>?_)))
  ·
   refine Wp 4 [2,0] hs rfl<|Zg hs rfl (Y_idxS hE k underlying35 sizeOf31 rfl rfl rfl oM fun p27 c27 hp27 hc27 hR27=>?_)
   rw [← hee] at hR27
   obtain rfl:c27=[Vi e.1,Vi e.2]:=hR27
   refine Zg hs rfl (Y_idxArrP 1 underlying31 sizeOf3 rfl rfl rfl dC<|Zg hs rfl (Yg rfl (hp27 1 (Vi e.2) rfl)<|Wp 1 [] hs rfl<|Zg hs rfl (Yc rfl (fun h31=>?_) fun h31=>?_)))
   ·
    refine Wp 8 [5,1,2,3,7,32,0] hs rfl<|T_ret<|Zz results66 rfl ?_
    exact ⟨_,[],hs.done,rfl,congrArg (Value.int .i64) (by rw [hfo,List.drop_eq_getElem_cons oM,← hee,edgG,if_pos oM])⟩
   refine Wp 6 [5,1,2,3,7,32] hs rfl<|Zy hs (Ya (s:=((k+1:Nat):Int)) rfl<|Wp 1 [] hs rfl<|Zx [1,2,3,7] rfl ⟨k+1,_,by omega,by rw [hfo,List.drop_eq_getElem_cons oM,← hee,edgG,if_neg oM],rfl,rfl,hs.weak hs.le (Ghost.le.refl _) (List.sublist_append_left [_] _)⟩)
  refine Wp 15 [5,1,2,3,7,32] hs rfl<|Zy hs (Ya (s:=((k+1:Nat):Int)) rfl<|Wp 1 [] hs rfl<|Zx [1,2,3,7] rfl ⟨k+1,_,by omega,by rw [hfo,List.drop_eq_getElem_cons oM,← hee,edgG,if_neg oM],rfl,rfl,hs.weak hs.le (Ghost.le.refl _) (List.sublist_append_left [_] _)⟩)
 refine Wp 3 [0] hs rfl<|Wu 4 [0] hs rfl<|T_ret<|Zz results66 rfl ?_
 obtain rfl:k=es.length:=by omega
 rw [List.drop_length] at hfo
 exact ⟨_,[],hs.done,rfl,congrArg (Value.int .i64) hfo.symm⟩
end Go.Proofs.YtkeplgdofphnkaaGreatDoor
namespace Go.Proofs.YtkeplgdofphnkaaGreatDoor
open Go Go.Ex
def ints (l:List Nat):List Int:=l.map fun x:Nat=>(x:Int)
theorem ints_mem {l:List Nat} {x:Nat}:(x:Int)∈ints l↔x∈l:=by
 unfold ints
 rw [List.mem_map]
 refine ⟨fun ⟨y,hy,e⟩=>?_,fun h=>⟨x,h,rfl⟩⟩
 have:y=x:=by omega
 rw [← this];exact hy
theorem route_nodup {es:List (Int×Int)}:∀ (l pre:List Int),routeG es pre l=true→l.Nodup∧∀ x∈l,x∉pre
 | [],_,_=>⟨by simp,by simp⟩
 | x::l,pre,h=>by
  rw [routeG] at h
  simp only [Bool.and_eq_true,Bool.not_eq_true'] at h
  obtain ⟨h1,h2⟩:=route_nodup l (pre++[x]) h.2.2
  have hx:x∉pre:=by
   have:=h.1
   rw [← Bool.not_eq_true,List.contains_iff_mem] at this
   exact this
  refine ⟨List.nodup_cons.2 ⟨fun hm=>h2 x hm Z54,h1⟩,fun y hy hm=>?_⟩
  rcases List.mem_cons.1 hy with rfl | hy
  ·exact hx hm
  ·exact h2 y hy (List.mem_append_left _ hm)
theorem nodup_le:∀ (n:Nat) (l:List Nat),l.Nodup→(∀ y∈l,y<n)→l.length≤n
 | 0,l,_,h=>by
  cases l with
  | nil=>simp
  | cons a l=>exact absurd (h a List.mem_cons_self) (Nat.not_lt_zero _)
 | n+1,l,hd,h=>by
  by_cases hm:n∈l
  ·have h1:=nodup_le n (l.erase n) (hd.erase n) (fun y hy=>by
    have h2:=(hd.mem_erase_iff).1 hy
    have:=h y h2.2
    have h3:=h2.1
    omega)
   rw [List.length_erase_of_mem hm] at h1;omega
  ·exact Nat.le_succ_of_le (nodup_le n l hd fun y hy=>by
    have:=h y hy
    have h3:y≠n:=fun e=>hm (e▸hy)
    omega)
theorem smallP_ne (k:Nat):¬ smallP k=noP:=by
 intro h
 have h2:=congrArg ProgM.blocks h
 unfold smallP at h2
 split at h2<;>cases h2
structure RawM where
 size:Nat
 progs:List Nat
 nodes:List Nat
 edges:Nat
 routes:List Nat
structure RawM.ok (x:RawM):Prop where
 p:x.progs.length=4
 n:x.nodes.length=5
 r:x.routes.length=3
 rl:∀ z∈x.routes,z<65536
def pcnt (s:Nat):Nat:=2+s % 3
def ncnt (s:Nat):Nat:=2+s / 3 % 4
def rcnt (s:Nat):Nat:=1+s / 12 % 3
def vcnt (k:Nat):Nat:=1+k / 8 % 3
def versMd (np k:Nat):List Int:=(List.range (vcnt k)).map fun j=>(((k / 24+j*(1+k / 96 % 2)) % np:Nat):Int)
def nodeMd (np k:Nat):NodM:=⟨versMd np k,((k / 2 % vcnt k:Nat):Int),((k / 2 % vcnt k:Nat):Int),decide (0<k % 8)⟩
def edgeOn (e i k:Nat):Bool:=decide (¬ i=k) && (decide (k=i+1) || decide (e / 2 ^ (5*i+k) % 2=1))
def edgeRow (e i n:Nat):List (Int×Int):=((List.range n).filter (edgeOn e i)).map fun k:Nat=>((i:Int),(k:Int))
def edgesMd (e n:Nat):List (Int×Int):=(List.range n).flatMap fun i=>edgeRow e i n
def optsF (es:List (Int×Int)) (n:Nat) (l:List Nat):List Nat:=(List.range n).filter fun k:Nat=>decide ((((l.getLastD 0:Nat):Int),(k:Int))∈es) && !(l.contains k)
def growF (es:List (Int×Int)) (n:Nat):Nat→List Nat→Nat→List Nat
 | 0,l,_=>l
 | f+1,l,x=>if n≤l.length then l else if optsF es n l=[]∨(1<l.length∧x % 4=3) then l
  else growF es n f (l++[(optsF es n l).getD (x / 4 % (optsF es n l).length) 0]) ((x / 8+x*8191) % 65536)
def routeMd (es:List (Int×Int)) (n x:Nat):List Nat:=growF es n n [x % (n-1)] (x / 5)
def madeF (x:RawM):FltM :=
 let np:=pcnt x.size;let n:=ncnt x.size;let es:=edgesMd x.edges n
 ⟨(x.progs.take np).map fun k=>smallP (k % 14),(x.nodes.take n).map (nodeMd np),es,(x.routes.take (rcnt x.size)).map fun r=>ints (routeMd es n r)⟩
theorem edgesG_of {n:Int}:∀ (l s:List (Int×Int)),(∀ e∈l,e∉s)→l.Nodup→(∀ e∈l,inB e.1 n=true∧inB e.2 n=true∧¬ e.1=e.2)→edgesG n s l=true
 | [],_,_,_,_=>rfl
 | e::l,s,h1,h2,h3=>by
  obtain ⟨h4,h5,h6⟩:=h3 e List.mem_cons_self
  have h2':=List.nodup_cons.1 h2
  have ih:=edgesG_of l (s++[e]) (fun z hz hm=>by
   rcases List.mem_append.1 hm with hm | hm
   ·exact h1 z (List.mem_cons_of_mem _ hz) hm
   ·exact h2'.1 (by rw [← List.mem_singleton.1 hm];exact hz)) h2'.2 (fun z hz=>h3 z (List.mem_cons_of_mem _ hz))
  rw [edgesG,ih,h4,h5,decide_eq_false (h1 e List.mem_cons_self),decide_eq_false h6];rfl
theorem edgesMd_mem {e n:Nat} {p:Int×Int}:p∈edgesMd e n↔∃ i k:Nat,i<n∧k<n∧edgeOn e i k=true∧p=((i:Int),(k:Int)):=by
 unfold edgesMd edgeRow
 rw [List.mem_flatMap]
 constructor
 ·rintro ⟨i,hi,h⟩
  obtain ⟨k,hk,rfl⟩:=List.mem_map.1 h
  rw [List.mem_filter,List.mem_range] at hk
  exact ⟨i,k,List.mem_range.1 hi,hk.1,hk.2,rfl⟩
 ·rintro ⟨i,k,hi,hk,h,rfl⟩
  exact ⟨i,List.mem_range.2 hi,List.mem_map.2 ⟨k,List.mem_filter.2 ⟨List.mem_range.2 hk,h⟩,rfl⟩⟩
theorem edgeRow_nodup (e i n:Nat):(edgeRow e i n).Nodup:=by
 unfold edgeRow
 have h0:((List.range n).filter (edgeOn e i)).Nodup:=((List.pairwise_lt_range (n:=n)).imp (fun h=>Nat.ne_of_lt h)).filter _
 refine List.Pairwise.map _ (fun a b h e=>h ?_) h0
 injection e with e1 e2
 omega
theorem edgesMd_nodup (e n:Nat):(edgesMd e n).Nodup:=by
 unfold edgesMd
 rw [List.Nodup,List.pairwise_flatMap]
 refine ⟨fun i _=>edgeRow_nodup e i n,(List.pairwise_lt_range (n:=n)).imp ?_⟩
 intro a b hab x hx y hy hxy
 unfold edgeRow at hx hy
 obtain ⟨k,_,rfl⟩:=List.mem_map.1 hx
 obtain ⟨m,_,rfl⟩:=List.mem_map.1 hy
 injection hxy with h1 h2
 omega
theorem edgesMd_ok (e n:Nat):edgesB n (edgesMd e n)=true:=by
 refine edgesG_of _ [] Z54 (edgesMd_nodup e n) fun p hp=>?_
 obtain ⟨i,k,hi,hk,h,rfl⟩:=edgesMd_mem.1 hp
 unfold edgeOn at h
 simp only [Bool.and_eq_true,decide_eq_true_iff] at h
 exact ⟨inB_iff.2 (by constructor<;>(show _;dsimp only;omega)),inB_iff.2 (by constructor<;>(show _;dsimp only;omega)),by dsimp only;omega⟩
theorem edgesMd_next {e n i:Nat} (h:i+1<n):((i:Int),((i+1:Nat):Int))∈edgesMd e n :=
 edgesMd_mem.2 ⟨i,i+1,by omega,h,by unfold edgeOn;simp,rfl⟩
theorem routeG_snoc {es:List (Int×Int)} {y:Int}:∀ (l pre:List Int),routeG es pre (l++[y])=(routeG es pre l && (!((pre++l).contains y) && linkB es (pre++l).getLast? y))
 | [],pre=>by
  rw [List.nil_append,routeG,List.append_nil]
  show (!(pre.contains y) && (linkB es pre.getLast? y && routeG es (pre++[y]) []))=(true && _)
  rw [routeG,Bool.and_true,Bool.true_and]
 | x::l,pre=>by
  rw [List.cons_append,routeG,routeG,routeG_snoc l (pre++[x]),List.append_assoc,List.singleton_append]
  simp only [Bool.and_assoc]
structure GrowP (es:List (Int×Int)) (n:Nat) (l:List Nat):Prop where
 g:routeG es [] (ints l)=true
 n0:1≤l.length
 rng:∀ y∈l,y<n
theorem opts_mem {es:List (Int×Int)} {n k:Nat} {l:List Nat}:k∈optsF es n l↔k<n∧(((l.getLastD 0:Nat):Int),(k:Int))∈es∧k∉l:=by
 unfold optsF
 rw [List.mem_filter,List.mem_range,Bool.and_eq_true,decide_eq_true_iff,Bool.not_eq_true',← Bool.not_eq_true,List.contains_iff_mem]
theorem GrowP.snoc {es:List (Int×Int)} {n k:Nat} {l:List Nat} (h:GrowP es n l) (hk:k∈optsF es n l):GrowP es n (l++[k]):=by
 obtain ⟨h1,h2,h3⟩:=opts_mem.1 hk
 refine ⟨?_,by simp,fun y hy=>?_⟩
 ·have e:ints (l++[k])=ints l++[(k:Int)]:=by unfold ints;simp
  rw [e,routeG_snoc,h.g,List.nil_append,Bool.true_and,Bool.and_eq_true]
  refine ⟨?_,?_⟩
  ·rw [Bool.not_eq_true',← Bool.not_eq_true,List.contains_iff_mem,ints_mem];exact h3
  ·have hl:(ints l).getLast?=some ((l.getLastD 0:Nat):Int):=by
    unfold ints
    rw [List.getLast?_map,List.getLastD_eq_getLast?]
    cases e2:l.getLast? with
    | none=>rw [List.getLast?_eq_none_iff] at e2;rw [e2] at h;exact absurd h.n0 Z54
    | some z=>rfl
   rw [hl];exact decide_eq_true h2
 ·rcases List.mem_append.1 hy with hy | hy
  ·exact h.rng y hy
  ·rw [List.mem_singleton.1 hy];exact h1
theorem opts_get {es:List (Int×Int)} {n x:Nat} {l:List Nat} (h:¬ optsF es n l=[]):x % (optsF es n l).length<(optsF es n l).length∧(optsF es n l).getD (x % (optsF es n l).length) 0∈optsF es n l:=by
 have h1:x % (optsF es n l).length<(optsF es n l).length:=Nat.mod_lt _ (by
  cases e:optsF es n l with
  | nil=>exact absurd e h
  | cons _ _=>simp)
 exact ⟨h1,by rw [getD_in h1];exact List.getElem_mem _⟩
theorem grow_ok {es:List (Int×Int)} {n:Nat}:∀ (f:Nat) (l:List Nat) (x:Nat),GrowP es n l→GrowP es n (growF es n f l x)∧l.length≤(growF es n f l x).length
 | 0,l,_,h=>⟨h,Nat.le_refl _⟩
 | f+1,l,x,h=>by
  rw [growF]
  split
  ·exact ⟨h,Nat.le_refl _⟩
  ·split
   ·exact ⟨h,Nat.le_refl _⟩
   ·rename_i h1 h2
    have h3:=opts_get (x:=x / 4) (fun e=>h2 (.inl e))
    have ih:=grow_ok f _ ((x / 8+x*8191) % 65536) (h.snoc h3.2)
    exact ⟨ih.1,Nat.le_trans (by rw [List.length_append];omega) ih.2⟩
theorem GrowP.len {es:List (Int×Int)} {n:Nat} {l:List Nat} (h:GrowP es n l):l.length≤n:=by
 refine nodup_le n l ?_ h.rng
 have:=(route_nodup _ _ h.g).1
 unfold ints at this
 exact List.Pairwise.of_map _ (fun a b h e=>h (by rw [e])) this
theorem routeMd_ok {e n x:Nat} (h2:2≤n) (h12:n≤12):routeB (edgesMd e n) (ints (routeMd (edgesMd e n) n x))=true∧(∀ y∈routeMd (edgesMd e n) n x,y<n)∧2≤(routeMd (edgesMd e n) n x).length∧(routeMd (edgesMd e n) n x).length≤n:=by
 have ha:x % (n-1)<n-1:=Nat.mod_lt _ Z53
 have h0:GrowP (edgesMd e n) n [x % (n-1)]:=⟨by
  show routeG _ [] [((x % (n-1):Nat):Int)]=true
  rw [routeG,routeG];rfl,by simp,fun y hy=>by rw [List.mem_singleton.1 hy];omega⟩
 have hr:routeMd (edgesMd e n) n x=growF (edgesMd e n) n n [x % (n-1)] (x / 5):=rfl
 obtain ⟨m,rfl⟩:∃ m,n=m+1:=⟨n-1,by omega⟩
 have ho:¬ optsF (edgesMd e (m+1)) (m+1) [x % (m+1-1)]=[]:=by
  intro he
  have:x % (m+1-1)+1∈optsF (edgesMd e (m+1)) (m+1) [x % (m+1-1)]:=opts_mem.2 ⟨by omega,edgesMd_next (i:=x % (m+1-1)) Z53,by simp⟩
  rw [he] at this;cases this
 have h3:=opts_get (x:=x / 5 / 4) ho
 rw [growF,if_neg Z50,if_neg (fun h=>by rcases h with h | h;exact ho h;exact absurd h.1 Z54)] at hr
 have hg:=grow_ok m _ ((x / 5 / 8+x / 5*8191) % 65536) (h0.snoc h3.2)
 rw [← hr] at hg
 have hl:=hg.1.len
 have hl2:2≤(routeMd (edgesMd e (m+1)) (m+1) x).length:=by have:=hg.2;rw [List.length_append] at this;exact this
 refine ⟨?_,hg.1.rng,hl2,hl⟩
 unfold routeB
 rw [Bool.and_eq_true]
 exact ⟨decide_eq_true (by unfold ints;rw [List.length_map];omega),hg.1.g⟩
theorem made_n {x:RawM} (hx:x.ok):(madeF x).nodes.length=ncnt x.size:=by
 show (List.map _ _).length=_
 rw [List.length_map,List.length_take,hx.n];unfold ncnt;omega
theorem made_p {x:RawM} (hx:x.ok):(madeF x).progs.length=pcnt x.size:=by
 show (List.map _ _).length=_
 rw [List.length_map,List.length_take,hx.p];unfold pcnt;omega
theorem made_r {x:RawM} (hx:x.ok):(madeF x).routes.length=rcnt x.size:=by
 show (List.map _ _).length=_
 rw [List.length_map,List.length_take,hx.r];unfold rcnt;omega
theorem ncnt_le (s:Nat):2≤ncnt s∧ncnt s≤5:=by unfold ncnt;omega
theorem pcnt_le (s:Nat):2≤pcnt s∧pcnt s≤4:=by unfold pcnt;omega
theorem rcnt_le (s:Nat):1≤rcnt s∧rcnt s≤3:=by unfold rcnt;omega
theorem vcnt_le (k:Nat):1≤vcnt k∧vcnt k≤3:=by unfold vcnt;omega
theorem nodeMd_ok {np k:Nat} (h:1≤np):nodeB np (nodeMd np k)=true:=by
 have hv:=vcnt_le k
 have hl:(nodeMd np k).vers.length=vcnt k:=by show (List.map _ _).length=_;rw [List.length_map,List.length_range]
 have hr:k / 2 % vcnt k<vcnt k:=Nat.mod_lt _ Z53
 unfold nodeB
 rw [hl]
 simp only [Bool.and_eq_true,decide_eq_true_iff]
 refine ⟨by omega,?_,inB_iff.2 ?_,inB_iff.2 ?_⟩
 ·rw [List.all_eq_true]
  intro v hv
  obtain ⟨j,_,rfl⟩:=List.mem_map.1 hv
  have:=Nat.mod_lt (k / 24+j*(1+k / 96 % 2)) (show 0<np by omega)
  exact inB_iff.2 Z53
 ·show 0≤((k / 2 % vcnt k:Nat):Int)∧((k / 2 % vcnt k:Nat):Int)<_
  omega
 ·show 0≤((k / 2 % vcnt k:Nat):Int)∧((k / 2 % vcnt k:Nat):Int)<_
  omega
theorem made_route {x:RawM} {r:List Int} (h:r∈(madeF x).routes):∃ l:List Nat,r=ints l∧routeB (madeF x).edges r=true∧(∀ y∈l,y<ncnt x.size)∧2≤l.length∧l.length≤ncnt x.size:=by
 have h':r∈(x.routes.take (rcnt x.size)).map fun r=>ints (routeMd (edgesMd x.edges (ncnt x.size)) (ncnt x.size) r):=h
 obtain ⟨z,_,rfl⟩:=List.mem_map.1 h'
 have:=routeMd_ok (e:=x.edges) (n:=ncnt x.size) (x:=z) (ncnt_le _).1 (Nat.le_trans (ncnt_le _).2 (by decide))
 exact ⟨_,rfl,this.1,this.2.1,this.2.2.1,this.2.2.2⟩
theorem made_ok {x:RawM} (hx:x.ok):checkE (madeF x)=0:=by
 have hn:=made_n hx;have hp:=made_p hx;have hr:=made_r hx
 have hn2:=ncnt_le x.size;have hp2:=pcnt_le x.size;have hr2:=rcnt_le x.size
 unfold checkE
 rw [if_neg Z53,if_neg Z53,if_neg,if_neg,if_neg,if_neg]
 ·rw [Bool.not_eq_false,List.all_eq_true]
  intro r h
  obtain ⟨_,_,h1,_⟩:=made_route h
  exact h1
 ·rw [Bool.not_eq_false,hn];exact edgesMd_ok _ _
 ·rw [Bool.not_eq_false,List.all_eq_true]
  intro y hy
  have hy':y∈(x.nodes.take (ncnt x.size)).map (nodeMd (pcnt x.size)):=hy
  obtain ⟨k,_,rfl⟩:=List.mem_map.1 hy'
  rw [hp];exact nodeMd_ok Z53
 ·rw [Bool.not_eq_false,List.all_eq_true]
  intro p h
  have h':p∈(x.progs.take (pcnt x.size)).map fun k=>smallP (k % 14):=h
  obtain ⟨k,_,rfl⟩:=List.mem_map.1 h'
  exact decide_eq_true (smallP_ne _)
theorem made_raw {x:RawM} (hx:x.ok):(rawL (madeF x)).length≤12:=by
 have hr:=made_r hx;have hr2:=rcnt_le x.size;have hn2:=ncnt_le x.size
 have key:∀ l:List (List Int),(∀ r∈l,r.length≤5)→(l.flatMap lnk).length≤l.length*4:=by
  intro l
  induction l with
  | nil=>intro _;simp
  | cons r l ih =>
   intro h
   have h1:=h r List.mem_cons_self
   have h2:=ih fun z hz=>h z (List.mem_cons_of_mem _ hz)
   rw [List.flatMap_cons,List.length_append,lnk_len,List.length_cons];omega
 have:=key (madeF x).routes (fun r h=>by
  obtain ⟨l,rfl,_,_,_,h5⟩:=made_route h
  unfold ints;rw [List.length_map];omega)
 unfold rawL
 omega
theorem sorted_eq {α:Type} {lt:α→α→Prop} (hirr:∀ a,¬ lt a a) (htr:∀ a b c,lt a b→lt b c→lt a c):∀ (l m:List α),l.Pairwise lt→m.Pairwise lt→(∀ x,x∈l↔x∈m)→l=m
 | [],m,_,_,h=>by
  cases m with
  | nil=>rfl
  | cons b m=>exact absurd ((h b).2 List.mem_cons_self) Z54
 | a::l,[],_,_,h=>absurd ((h a).1 List.mem_cons_self) Z54
 | a::l,b::m,hl,hm,h=>by
  rw [List.pairwise_cons] at hl hm
  have hab:a=b:=by
   rcases List.mem_cons.1 ((h a).1 List.mem_cons_self) with e | h1
   ·exact e
   ·rcases List.mem_cons.1 ((h b).2 List.mem_cons_self) with e | h2
    ·exact e.symm
    ·exact absurd (htr _ _ _ (hl.1 b h2) (hm.1 a h1)) (hirr a)
  subst hab
  rw [sorted_eq hirr htr l m hl.2 hm.2 fun x=>?_]
  constructor
  ·intro hx
   rcases List.mem_cons.1 ((h x).1 (List.mem_cons_of_mem _ hx)) with e | h1
   ·subst e;exact absurd (hl.1 x hx) (hirr x)
   ·exact h1
  ·intro hx
   rcases List.mem_cons.1 ((h x).2 (List.mem_cons_of_mem _ hx)) with e | h1
   ·subst e;exact absurd (hm.1 x hx) (hirr x)
   ·exact h1
theorem used_eq {f g:FltM} {u v:List Int} (hu:UsedP f u) (hv:UsedP g v) (h:∀ x,x∈rawU f↔x∈rawU g):u=v :=
 sorted_eq (fun a=>Int.lt_irrefl a) (fun a b c=>Int.lt_trans) u v hu.1 hv.1 fun x=>by rw [hu.2,hv.2];exact h x
theorem pairs_eq {f g:FltM} {u v:List (Int×Int)} (hu:PairsP f u) (hv:PairsP g v) (h:∀ p,(∃ e∈rawL f,p=(runI f e.1,runI f e.2))↔∃ e∈rawL g,p=(runI g e.1,runI g e.2)):u=v :=
 sorted_eq (lt:=fun a b=>ltP a b=true) (fun a h=>by rw [ltP_iff] at h;omega) (fun a b c h1 h2=>by rw [ltP_iff] at *;omega) u v hu.1 hv.1 fun x=>by rw [hu.2,hv.2];exact h x
theorem posK_app {α:Type} [DecidableEq α] {a:α} {b:List α}:∀ {l:List α},a∈l→posK a (l++b)=posK a l
 | [],h=>by cases h
 | k::l,h=>by
  rw [List.cons_append,posK,posK]
  split
  ·rfl
  ·rename_i hne
   rcases List.mem_cons.1 h with e | h
   ·exact absurd e.symm hne
   ·rw [posK_app h]
end Go.Proofs.YtkeplgdofphnkaaGreatDoor
namespace Go.Proofs.YtkeplgdofphnkaaGreatDoor
open Go Go.Ex Go.RowKit Go.Proofs.Tryz
theorem rino_ok {G:Ghost} {v:Value} {l:List Nat} {x:Nat} {n:Nat} (hl:l.length=n) (hn:n≤1000000) :
  FnOk prog 30 [v,Vi (x:Int)] G [.row 3 1 v n (l.map natV)] fun r _ H'=>r=.bool (decide (x∈l))∧H'=[.row 3 1 v n (l.map natV)]:=by
 subst hl
 refine FnOk.of_T [(0,_),(1,_)] func30 rfl ntmps30 sM rfl fun w0 hs =>Wt 9 [0,0] hs rfl<|Zl [0,1,5] (fun m E w=>∃ (k:Nat) (G2:Ghost),k≤l.length∧x∉l.take k∧m=l.length-k∧E=⟨[],[(0,v),(1,Vi (x:Int)),(5,Vi (k:Int))]⟩∧St ⟨w0,G,feet [.row 3 1 v l.length (l.map natV)]⟩ G2 [.row 3 1 v l.length (l.map natV)] w) rfl (⟨0,_,by omega,by simp,rfl,rfl,hs⟩) fun m E w hI=>?_
 obtain ⟨k,G2,hk,hx,rfl,rfl,hs⟩:=hI
 refine Wt 5 [] hs rfl<|Zy hs (Y_lenOwn 0 rfl underlying45 rfl hs<|Zy hs (Yc rfl (fun h9=>?_) fun h9=>?_))
 ·
  refine Wp 9 [0] hs rfl<|Zy hs (Y_idxOwn (j:=((k:Nat):Int)) (k) 0 rfl underlying45 sizeOf3 rfl rfl rfl oM (u:=natV (l[k]'oM)) (nat_row oM) hs fun p14 hp14 =>Zy hs (Y_ldOwn isAgg3 rfl hp14<|Wp 1 [] hs rfl<|Zy hs (Yc rfl (fun h17=>?_) fun h17=>?_)))
  ·
   refine Wp 6 [0,0] hs rfl<|T_ret<|Zz results30 rfl ?_
   exact ⟨_,_,hs,congrArg Value.bool (decide_eq_true (by rw [show x=l[k] from by omega];exact List.getElem_mem _)).symm,rfl⟩
  refine Wp 5 [0] hs rfl<|Zy hs (Ya (s:=((k+1:Nat):Int)) rfl<|Wp 1 [] hs rfl<|Zx [0,1,5] rfl ⟨k+1,_,by omega,by rw [take_succ' oM];intro h;rcases List.mem_append.1 h with h | h;exact hx h;exact h17 (by rw [List.mem_singleton.1 h]),rfl,rfl,hs⟩)
 refine Wp 3 [0] hs rfl<|Wu 4 [0] hs rfl<|T_ret<|Zz results30 rfl ?_
 obtain rfl:k=l.length:=by omega
 rw [List.take_length] at hx
 exact ⟨_,_,hs,congrArg Value.bool (decide_eq_false hx).symm,rfl⟩
def optsK (es:List (Int×Int)) (l:List Nat) (k:Nat):List Nat:=(List.range k).filter fun k:Nat=>decide ((((l.getLastD 0:Nat):Int),(k:Int))∈es) && !(l.contains k)
theorem optsK_T {es:List (Int×Int)} {l:List Nat} {k:Nat} (h1:(((l.getLastD 0:Nat):Int),(k:Int))∈es) (h2:k∉l):optsK es l (k+1)=optsK es l k++[k]:=by
  unfold optsK;rw [List.range_succ,List.filter_append];simp only [List.filter_cons,List.filter_nil]
  rw [if_pos (by rw [Bool.and_eq_true];exact ⟨decide_eq_true h1,by simpa using h2⟩)]
theorem optsK_F {es:List (Int×Int)} {l:List Nat} {k:Nat} (h:¬ ((((l.getLastD 0:Nat):Int),(k:Int))∈es∧k∉l)):optsK es l (k+1)=optsK es l k:=by
  unfold optsK;rw [List.range_succ,List.filter_append];simp only [List.filter_cons,List.filter_nil]
  rw [if_neg Z49,List.append_nil]
theorem optsK_le (es:List (Int×Int)) (l:List Nat) (k:Nat):(optsK es l k).length≤k:=by
  unfold optsK;exact Nat.le_trans (List.length_filter_le _ _) sM
theorem optsK_all (es:List (Int×Int)) (l:List Nat) (n:Nat):optsK es l n=optsF es n l:=rfl
theorem last_row {l:List Nat} (h:1≤l.length):(l.map natV)[l.length-1]?=some (natV (l.getLastD 0)):=by
  rw [List.getElem?_map,List.getLastD_eq_getLast?,List.getLast?_eq_getElem?]
  rw [List.getElem?_eq_getElem oM];rfl
theorem grow_go {es:List (Int×Int)} {n f x:Nat} {l:List Nat} (h1:l.length<n) (h2:¬ optsF es n l=[]) (h3:¬ (1<l.length∧x % 4=3)):growF es n (f+1) l x=growF es n f (l++[(optsF es n l).getD (x / 4 % (optsF es n l).length) 0]) ((x / 8+x*8191) % 65536):=by
  rw [growF,if_neg oM,if_neg (by rintro (h | h);exact h2 h;exact h3 h)]
theorem grow_stop {es:List (Int×Int)} {n f x:Nat} {l:List Nat} (h:n≤l.length∨optsF es n l=[]∨(1<l.length∧x % 4=3)):growF es n f l x=l:=by
  cases f with
  | zero=>rfl
  | succ f =>
    rw [growF]
    split
    · rfl
    · rename_i h1
      rw [if_pos (by rcases h with h | h | h;exact absurd h h1;exact .inl h;exact .inr h)]
def lget (l:List Nat) (i:Nat):Nat:=l.getD i 0
theorem lget_row {l:List Nat} {i:Nat} (h:i<l.length):(l.map natV)[i]?=some (natV (lget l i)):=by
  unfold lget;rw [List.getElem?_map,List.getElem?_eq_getElem h,getD_in h];rfl
theorem rrou_ok {G:Ghost} {x0:Nat} {wp wr:Value} {An Ae:Option Addr} {nn cn ce:Nat} {es:List (Int×Int)} (hE:Eds G (.slice Ae es.length ce) es) (hez:es.length≤1000) (hx0:x0<65536) (hn2:2≤nn) (hn12:nn≤12) :
  FnOk prog 34 [.agg #[wp,.slice An nn cn,.slice Ae es.length ce,wr],.int .u16 (x0:Int)] G [] fun r G' H'=>H'=[]∧Nats G' r (routeMd es nn x0):=by
 refine FnOk.of_T [(0,_),(1,_)] func34 rfl ntmps34 sM rfl fun w0 hs=>?_
 have hE0:=hE
 refine Wt 2 [] hs rfl<|O_s (Sb hs rfl fun b2 _ hs=>Wp 12 [0,1,0,0] hs rfl<|Zy hs (Y_conv underlying25 underlying3 (c:=(x0:Int)) rfl Z39<|Wp 1 [] hs rfl<|Zy hs (Y_sub (c:=((nn-1:Nat):Int)) rfl rfl oM oM<|Zy hs (Y_rem (c:=((x0 % (nn-1):Nat):Int)) rfl rfl oM oM (Int.natCast_emod _ _).symm<|O_s (S_lit hs underlying45 sizeOf3 zeroValue3 rfl rfl dC dC rfl (cs:=[_]) rfl rfl fun v1 _ hs _ =>Wp 5 [0] hs rfl<|Zy hs (Y_quoV (c:=((x0 / 5:Nat):Int)) rfl rfl oM oM Z45<|Wp 2 [0] hs rfl ?_))))))
 have hs:=hs.f1.f1
 refine Wu 1 [] hs rfl<|Zl [1,2,5,6] (fun m E w=>∃ (l:List Nat) (x:Nat) (vr:Value) (G2:Ghost),growF es nn nn [x0 % (nn-1)] (x0 / 5)=growF es nn (nn+1-l.length) l x∧1≤l.length∧l.length≤nn∧x<65536∧m=nn-l.length∧E=⟨[],[(1,.int .u16 (x:Int)),(2,Vp b2),(5,Vi (nn:Int)),(6,vr)]⟩∧St ⟨w0,G,feet []⟩ G2 [.row 3 1 vr l.length (l.map natV),.blk b2 38 [wp,.slice An nn cn,.slice Ae es.length ce,wr]] w) rfl (⟨[x0 % (nn-1)],x0 / 5,_,_,rfl,by simp,by simp;omega,by omega,rfl,rfl,hs⟩) fun m E w hI=>?_
 obtain ⟨l,x,vr,G2,hfo,hl1,hln,hx,rfl,rfl,hs⟩:=hI
 have hE:=hE0.mono hs.le
 refine Wt 4 [] hs rfl<|Zy hs (Y_lenOwn 0 rfl underlying45 rfl hs<|Wp 1 [] hs rfl<|Zy hs (Yc rfl (fun h24=>?_) fun h24=>?_))
 ·
  refine Wp 8 [0] hs rfl<|Zy hs (Y_lenOwn 0 rfl underlying45 rfl hs<|Zy hs (Y_sub (c:=((l.length-1:Nat):Int)) rfl rfl oM oM<|Zy hs (Y_idxOwn (j:=((l.length-1:Nat):Int)) (l.length-1) 0 rfl underlying45 sizeOf3 rfl rfl rfl oM (u:=natV (l.getLastD 0)) (last_row hl1) hs fun p29 hp29 =>Zy hs (Y_ldOwn isAgg3 rfl hp29<|Wp 4 [0] hs rfl<|O_s (S_lit hs underlying45 sizeOf3 zeroValue3 rfl rfl dC dC rfl (cs:=[]) rfl rfl fun v2 _ hs _ =>Wp 7 [0,0] hs rfl ?_)))))
  have hs:=hs.f2.f2.f2
  refine Zl [1,2,5,6,7,8,9] (fun m E w=>∃ (k:Nat) (vo:Value) (G2:Ghost),k≤nn∧m=nn-k∧E=⟨[],[(1,.int .u16 (x:Int)),(2,Vp b2),(5,Vi (nn:Int)),(6,vr),(7,Vi ((l.getLastD 0):Int)),(8,vo),(9,Vi (k:Int))]⟩∧St ⟨w0,G,feet []⟩ G2 [.row 3 1 vo (optsK es l k).length ((optsK es l k).map natV),.row 3 1 vr l.length (l.map natV),.blk b2 38 [wp,.slice An nn cn,.slice Ae es.length ce,wr]] w) rfl (⟨0,_,_,by omega,rfl,rfl,hs⟩) fun m E w hI=>?_
  obtain ⟨k,vo,G2,hk,rfl,rfl,hs⟩:=hI
  have hE:=hE0.mono hs.le
  refine Wt 5 [] hs rfl<|Zy hs (Yc rfl (fun h34=>?_) fun h34=>?_)
  ·
   refine Wp 10 [0,2] hs rfl<|O_s (Sc (redg_ok hE hez) hs rfl fun v3 G' H' _ hR hG40 hs=>?_)
   obtain ⟨rfl,rfl⟩:=hR
   replace hs:=hs.n rfl
   refine Zy hs (Yc rfl (fun h41=>?_) fun h41=>?_)
   ·
    refine Wp 3 [] hs rfl<|O_yes 42 rfl rfl (Sc (rino_ok (l:=l) (x:=k) rfl oM) hs.f1 rfl fun v4 G' H' _ hR hG45 hs=>?_)
    obtain ⟨rfl,rfl⟩:=hR
    replace hs:=hs.n rfl
    cases h45:decide (k∈l)
    ·
     refine Wp 7 [0] hs rfl<|O_s (S_lit hs underlying45 sizeOf3 zeroValue3 rfl rfl dC dC rfl (cs:=[_]) rfl rfl fun v5 _ hs _=>?_)
     obtain ⟨_,hG50,hl50,hs⟩:=hs.fixRow noM
     refine O_s (S_append hs.f1 underlying45 TI3 rfl dC rfl rfl (hl50) (one1 rfl) (by have:=optsK_le es l k;omega) (by have:=optsK_le es l k;omega) fun v6 _ hs =>Wp 4 [7,1,2,5,6,7,8,9] hs rfl<|Zy hs (Ya (s:=((k+1:Nat):Int)) rfl<|Wp 1 [] hs rfl ?_))
     have hs:=hs.f2.f2.f2
     refine Zx [1,2,5,6,7,8,9] rfl ⟨k+1,_,_,by omega,rfl,rfl,castH (hs.weak hs.le (Ghost.le.refl _) (List.sublist_append_left [_,_,_] _)) (by rw [optsK_T ((edgG_nn _ _).1 h41) (of_decide_eq_false h45)];simp [natV])⟩
    refine Wp 7 [0] hs rfl<|Zy hs (Ya (s:=((k+1:Nat):Int)) rfl<|Wp 1 [] hs rfl ?_)
    have hs:=hs.f2.f1.f2
    refine Zx [1,2,5,6,7,8,9] rfl ⟨k+1,_,_,by omega,rfl,rfl,castH (hs) (by rw [optsK_F (fun h=>h.2 (of_decide_eq_true h45))])⟩
   refine Wp 11 [0] hs rfl<|Zy hs (Ya (s:=((k+1:Nat):Int)) rfl<|Wp 1 [] hs rfl ?_)
   have hs:=hs.f2.f2.f2
   refine Zx [1,2,5,6,7,8,9] rfl ⟨k+1,_,_,by omega,rfl,rfl,castH (hs) (by rw [optsK_F (fun h=>h41 ((edgG_nn _ _).2 h.1))])⟩
  refine Wp 3 [0] hs rfl ?_
  have hkn:k=nn:=by omega
  rw [hkn,optsK_all] at hs
  refine Wu 4 [] hs rfl<|Zy hs (Y_lenOwn 0 rfl underlying45 rfl hs<|Zy hs (Yc rfl (fun h54=>?_) fun h54=>?_))
  ·
   refine Wp 5 [] hs rfl<|O_noU 59 rfl rfl<|O_noU 59 rfl rfl<|O_noU 59 rfl rfl<|Wp 5 [0] hs rfl<|Wu 5 [0] hs rfl<|T_ret ?_
   have hs:=hs.f1
   obtain ⟨_,hG_hfr,hfr,hs⟩:=hs.fixRow noM
   refine Zz results34 rfl ?_
   have hfin:routeMd es nn x0=l:=by rw [show routeMd es nn x0=growF es nn nn [x0 % (nn-1)] (x0 / 5) from rfl,hfo];exact grow_stop (.inr (.inl (List.eq_nil_of_length_eq_zero oM)))
   exact ⟨_,[],hs.done,rfl,by rw [hfin];exact hfr⟩
  refine Wp 2 [] hs rfl<|Zg hs rfl (Y_lenOwn 1 rfl underlying45 rfl hs<|Zg hs rfl (Yc rfl (fun h58=>?_) fun h58=>?_))
  ·
   refine Wp 2 [] hs rfl<|Zg hs rfl (Y_rem (c:=((x % 4:Nat):Int)) rfl rfl oM oM oM<|Zg hs rfl (Yc rfl (fun h62=>?_) fun h62=>?_))
   ·
    refine Wp 5 [0] hs rfl<|Wu 5 [1,4] hs rfl<|T_ret ?_
    have hs:=hs.f1
    obtain ⟨_,hG_hfr,hfr,hs⟩:=hs.fixRow noM
    refine Zz results34 rfl ?_
    have hfin:routeMd es nn x0=l:=by rw [show routeMd es nn x0=growF es nn nn [x0 % (nn-1)] (x0 / 5) from rfl,hfo];exact grow_stop (.inr (.inr oM))
    exact ⟨_,[],hs.done,rfl,by rw [hfin];exact hfr⟩
   refine Wp 5 [0] hs rfl ?_
   have hopos:0<(optsF es nn l).length:=by omega
   have hol:x / 4 % (optsF es nn l).length<(optsF es nn l).length:=Nat.mod_lt _ hopos
   have hou:=lget_row hol
   have hgo:=grow_go (es:=es) (n:=nn) (f:=nn-l.length) (x:=x) (l:=l) oM (fun e=>by rw [e] at hopos;exact absurd hopos sM) oM
   refine Wu 5 [] hs rfl<|Zy hs (Y_quoV (c:=((x / 4:Nat):Int)) rfl rfl oM oM Z45<|Zy hs (Y_conv underlying25 underlying3 (c:=((x / 4:Nat):Int)) rfl Z39<|Wp 1 [] hs rfl<|Zy hs (Y_lenOwn 0 rfl underlying45 rfl hs<|Zy hs (Y_rem (c:=((x / 4 % (optsF es nn l).length:Nat):Int)) rfl rfl oM oM (Int.natCast_emod _ _).symm<|Zy hs (Y_idxOwn (j:=((x / 4 % (optsF es nn l).length:Nat):Int)) (x / 4 % (optsF es nn l).length) 0 rfl underlying45 sizeOf3 rfl rfl rfl hol (u:=natV (lget (optsF es nn l) (x / 4 % (optsF es nn l).length))) hou hs fun p73 hp73 =>Zy hs (Y_ldOwn isAgg3 rfl hp73<|O_s (S_lit hs underlying45 sizeOf3 zeroValue3 rfl rfl dC dC rfl (cs:=[_]) rfl rfl fun v7 _ hs _=>?_)))))))
   obtain ⟨_,hG75,hl75,hs⟩:=hs.fixRow noM
   refine O_s (S_append hs.f1 underlying45 TI3 rfl dC rfl rfl (hl75) (one1 rfl) oM Z50 fun v8 _ hs =>Wp 4 [4,1,2,5,6] hs rfl<|Zy hs (Y_quoV (c:=((x / 8:Nat):Int)) rfl rfl oM oM Z45<|Wp 1 [] hs rfl<|Zy hs (Y_mulV (c:=((x*8191 % 65536:Nat):Int)) rfl rfl Z45<|Zy hs (Y_addV (c:=(((x / 8+x*8191) % 65536:Nat):Int)) rfl rfl Z45<|Wp 1 [] hs rfl ?_))))
   have hs:=hs.f2.f1
   refine O_nil ⟨_,?_,[(1,_),(2,_),(5,_),(6,_)],⟨rfl,rfl,rfl,rfl,trivial⟩,⟨l++[lget (optsF es nn l) (x / 4 % (optsF es nn l).length)],(x / 8+x*8191) % 65536,v8,_,by rw [hfo,show nn+1-l.length=(nn-l.length)+1 from by omega,hgo,List.length_append,List.length_singleton,show nn+1-(l.length+1)=nn-l.length from by omega];rfl,by simp,by simp;omega,by omega,rfl,rfl,castH (hs.weak hs.le (Ghost.le.refl _) (List.sublist_append_left [_,_] _)) (by simp [natV])⟩⟩
   (simp;omega)
  refine Wp 9 [0] hs rfl ?_
  have hopos:0<(optsF es nn l).length:=by omega
  have hol:x / 4 % (optsF es nn l).length<(optsF es nn l).length:=Nat.mod_lt _ hopos
  have hou:=lget_row hol
  have hgo:=grow_go (es:=es) (n:=nn) (f:=nn-l.length) (x:=x) (l:=l) oM (fun e=>by rw [e] at hopos;exact absurd hopos sM) oM
  refine Wu 5 [] hs rfl<|Zy hs (Y_quoV (c:=((x / 4:Nat):Int)) rfl rfl oM oM Z45<|Zy hs (Y_conv underlying25 underlying3 (c:=((x / 4:Nat):Int)) rfl Z39<|Wp 1 [] hs rfl<|Zy hs (Y_lenOwn 0 rfl underlying45 rfl hs<|Zy hs (Y_rem (c:=((x / 4 % (optsF es nn l).length:Nat):Int)) rfl rfl oM oM (Int.natCast_emod _ _).symm<|Zy hs (Y_idxOwn (j:=((x / 4 % (optsF es nn l).length:Nat):Int)) (x / 4 % (optsF es nn l).length) 0 rfl underlying45 sizeOf3 rfl rfl rfl hol (u:=natV (lget (optsF es nn l) (x / 4 % (optsF es nn l).length))) hou hs fun p73 hp73 =>Zy hs (Y_ldOwn isAgg3 rfl hp73<|O_s (S_lit hs underlying45 sizeOf3 zeroValue3 rfl rfl dC dC rfl (cs:=[_]) rfl rfl fun v9 _ hs _=>?_)))))))
  obtain ⟨_,hG75,hl75,hs⟩:=hs.fixRow noM
  refine O_s (S_append hs.f1 underlying45 TI3 rfl dC rfl rfl (hl75) (one1 rfl) oM Z50 fun v10 _ hs =>Wp 4 [4,1,2,5,6] hs rfl<|Zy hs (Y_quoV (c:=((x / 8:Nat):Int)) rfl rfl oM oM Z45<|Wp 1 [] hs rfl<|Zy hs (Y_mulV (c:=((x*8191 % 65536:Nat):Int)) rfl rfl Z45<|Zy hs (Y_addV (c:=(((x / 8+x*8191) % 65536:Nat):Int)) rfl rfl Z45<|Wp 1 [] hs rfl ?_))))
  have hs:=hs.f2.f1
  refine O_nil ⟨_,?_,[(1,_),(2,_),(5,_),(6,_)],⟨rfl,rfl,rfl,rfl,trivial⟩,⟨l++[lget (optsF es nn l) (x / 4 % (optsF es nn l).length)],(x / 8+x*8191) % 65536,v10,_,by rw [hfo,show nn+1-l.length=(nn-l.length)+1 from by omega,hgo,List.length_append,List.length_singleton,show nn+1-(l.length+1)=nn-l.length from by omega];rfl,by simp,by simp;omega,by omega,rfl,rfl,castH (hs.weak hs.le (Ghost.le.refl _) (List.sublist_append_left [_,_] _)) (by simp [natV])⟩⟩
  (simp;omega)
 refine Wp 3 [0] hs rfl<|Wu 5 [0] hs rfl<|T_ret ?_
 obtain ⟨_,hG_hfr,hfr,hs⟩:=hs.fixRow noM
 refine Zz results34 rfl ?_
 have hfin:routeMd es nn x0=l:=by rw [show routeMd es nn x0=growF es nn nn [x0 % (nn-1)] (x0 / 5) from rfl,hfo];exact grow_stop (.inl oM)
 exact ⟨_,[],hs.done,rfl,by rw [hfin];exact hfr⟩
theorem PL61:places prog 61=some [(0,1),(1,1),(2,1),(3,1)]:=by kernel_rfl
def rawM (sz p0 p1 p2 p3 n0 n1 n2 n3 n4:UInt8) (ed r0 r1 r2:Nat):RawM:=⟨sz.toNat,[p0.toNat,p1.toNat,p2.toNat,p3.toNat],[n0.toNat,n1.toNat,n2.toNat,n3.toNat,n4.toNat],ed,[r0,r1,r2]⟩
theorem rawM_ok {sz p0 p1 p2 p3 n0 n1 n2 n3 n4:UInt8} {ed r0 r1 r2:Nat} (h0:r0<65536) (h1:r1<65536) (h2:r2<65536):RawM.ok (rawM sz p0 p1 p2 p3 n0 n1 n2 n3 n4 ed r0 r1 r2):=⟨rfl,rfl,rfl,fun z hz=>by
  have hz':z∈[r0,r1,r2]:=hz
  simp only [List.mem_cons,List.not_mem_nil,or_false] at hz'
  rcases hz' with rfl | rfl | rfl<;>assumption⟩
theorem raw_p {sz p0 p1 p2 p3 n0 n1 n2 n3 n4:UInt8} {ed r0 r1 r2:Nat} {i:Nat} (h:i<pcnt sz.toNat):∃ q:UInt8,([.int .u8 (sz.toNat:Int),.int .u8 (p0.toNat:Int),.int .u8 (p1.toNat:Int),.int .u8 (p2.toNat:Int),.int .u8 (p3.toNat:Int),.int .u8 (n0.toNat:Int),.int .u8 (n1.toNat:Int),.int .u8 (n2.toNat:Int),.int .u8 (n3.toNat:Int),.int .u8 (n4.toNat:Int),.int .u32 (ed:Int),.int .u16 (r0:Int),.int .u16 (r1:Int),.int .u16 (r2:Int)]:List Value)[1+i*1]?=some (.int .u8 (q.toNat:Int))∧(madeF (rawM sz p0 p1 p2 p3 n0 n1 n2 n3 n4 ed r0 r1 r2)).progs[i]?=some (smallP (q.toNat % 14)):=by
  have h4:=(pcnt_le sz.toNat).2
  have e:(madeF (rawM sz p0 p1 p2 p3 n0 n1 n2 n3 n4 ed r0 r1 r2)).progs[i]?=(([p0.toNat,p1.toNat,p2.toNat,p3.toNat]:List Nat)[i]?).map fun k=>smallP (k % 14):=by
    show (List.map _ (List.take (pcnt sz.toNat) _))[i]?=_
    rw [List.getElem?_map,List.getElem?_take_of_lt h];rfl
  rw [e]
  match i,h with
  | 0,_=>exact ⟨p0,rfl,rfl⟩
  | 1,_=>exact ⟨p1,rfl,rfl⟩
  | 2,_=>exact ⟨p2,rfl,rfl⟩
  | 3,_=>exact ⟨p3,rfl,rfl⟩
  | i+4,h=>omega
theorem raw_n {sz p0 p1 p2 p3 n0 n1 n2 n3 n4:UInt8} {ed r0 r1 r2:Nat} {i:Nat} (h:i<ncnt sz.toNat):∃ q:UInt8,([.int .u8 (sz.toNat:Int),.int .u8 (p0.toNat:Int),.int .u8 (p1.toNat:Int),.int .u8 (p2.toNat:Int),.int .u8 (p3.toNat:Int),.int .u8 (n0.toNat:Int),.int .u8 (n1.toNat:Int),.int .u8 (n2.toNat:Int),.int .u8 (n3.toNat:Int),.int .u8 (n4.toNat:Int),.int .u32 (ed:Int),.int .u16 (r0:Int),.int .u16 (r1:Int),.int .u16 (r2:Int)]:List Value)[5+i*1]?=some (.int .u8 (q.toNat:Int))∧(madeF (rawM sz p0 p1 p2 p3 n0 n1 n2 n3 n4 ed r0 r1 r2)).nodes[i]?=some (nodeMd (pcnt sz.toNat) q.toNat):=by
  have h4:=(ncnt_le sz.toNat).2
  have e:(madeF (rawM sz p0 p1 p2 p3 n0 n1 n2 n3 n4 ed r0 r1 r2)).nodes[i]?=(([n0.toNat,n1.toNat,n2.toNat,n3.toNat,n4.toNat]:List Nat)[i]?).map (nodeMd (pcnt sz.toNat)):=by
    show (List.map _ (List.take (ncnt sz.toNat) _))[i]?=_
    rw [List.getElem?_map,List.getElem?_take_of_lt h];rfl
  rw [e]
  match i,h with
  | 0,_=>exact ⟨n0,rfl,rfl⟩
  | 1,_=>exact ⟨n1,rfl,rfl⟩
  | 2,_=>exact ⟨n2,rfl,rfl⟩
  | 3,_=>exact ⟨n3,rfl,rfl⟩
  | 4,_=>exact ⟨n4,rfl,rfl⟩
  | i+5,h=>omega
theorem raw_r {sz p0 p1 p2 p3 n0 n1 n2 n3 n4:UInt8} {ed r0 r1 r2:Nat} (h0:r0<65536) (h1:r1<65536) (h2:r2<65536) {i:Nat} (h:i<rcnt sz.toNat):∃ q:Nat,q<65536∧([.int .u8 (sz.toNat:Int),.int .u8 (p0.toNat:Int),.int .u8 (p1.toNat:Int),.int .u8 (p2.toNat:Int),.int .u8 (p3.toNat:Int),.int .u8 (n0.toNat:Int),.int .u8 (n1.toNat:Int),.int .u8 (n2.toNat:Int),.int .u8 (n3.toNat:Int),.int .u8 (n4.toNat:Int),.int .u32 (ed:Int),.int .u16 (r0:Int),.int .u16 (r1:Int),.int .u16 (r2:Int)]:List Value)[11+i*1]?=some (.int .u16 (q:Int))∧(madeF (rawM sz p0 p1 p2 p3 n0 n1 n2 n3 n4 ed r0 r1 r2)).routes[i]?=some (ints (routeMd (edgesMd ed (ncnt sz.toNat)) (ncnt sz.toNat) q)):=by
  have h4:=(rcnt_le sz.toNat).2
  have e:(madeF (rawM sz p0 p1 p2 p3 n0 n1 n2 n3 n4 ed r0 r1 r2)).routes[i]?=(([r0,r1,r2]:List Nat)[i]?).map fun r=>ints (routeMd (edgesMd ed (ncnt sz.toNat)) (ncnt sz.toNat) r):=by
    show (List.map _ (List.take (rcnt sz.toNat) _))[i]?=_
    rw [List.getElem?_map,List.getElem?_take_of_lt h];rfl
  rw [e]
  match i,h with
  | 0,_=>exact ⟨r0,by assumption,rfl,rfl⟩
  | 1,_=>exact ⟨r1,by assumption,rfl,rfl⟩
  | 2,_=>exact ⟨r2,by assumption,rfl,rfl⟩
  | i+3,h=>omega
theorem take_next {α:Type} {l:List α} {i:Nat} {a:α} (h:l[i]?=some a):l.take (i+1)=l.take i++[a]:=by rw [List.take_add_one,h];rfl
theorem PgR.slices {G:Ghost} {a b:Value} {p:ProgM} (h:PgR G [a,b] p):∃ A1 k1 A2 k2,a=.slice A1 p.stmts.length k1∧b=.slice A2 p.blocks.length k2:=by
  obtain ⟨u,v,e,⟨h1,_⟩,⟨h2,_⟩⟩:=h
  injection e with e1 e2
  injection e2 with e2 _
  subst e1 e2
  obtain ⟨A1,k1,rfl⟩:=LstR.slice h1
  obtain ⟨A2,k2,rfl⟩:=LstR.slice h2
  exact ⟨_,_,_,_,rfl,rfl⟩
theorem gt_iff {z:Nat}:cmpP .gtr (z:Int) 0↔decide (0<z)=true:=by
  rw [decide_eq_true_iff];show (z:Int)>0↔_;omega
theorem shr32 (a k:Nat) (hk:k<32):(a:Int).fdiv (2 ^ (min ((k:Int)).toNat IntKind.u32.bits))=((a / 2 ^ k:Nat):Int):=by
  have h1:min ((k:Int)).toNat IntKind.u32.bits=k:=by show min ((k:Int)).toNat 32=k;omega
  rw [h1,Int.fdiv_eq_ediv_of_nonneg _ (Int.pow_nonneg dC)]
  push_cast;rfl
def edP (e n i:Nat):List (Int×Int):=(List.range i).flatMap fun i=>edgeRow e i n
def edQ (e i k:Nat):List (Int×Int):=((List.range k).filter (edgeOn e i)).map fun k:Nat=>((i:Int),(k:Int))
theorem edP_succ (e n i:Nat):edP e n (i+1)=edP e n i++edQ e i n:=by
  unfold edP;rw [List.range_succ,List.flatMap_append];simp [edgeRow,edQ]
theorem edQ_T {e i k:Nat} (h:edgeOn e i k=true):edQ e i (k+1)=edQ e i k++[((i:Int),(k:Int))]:=by
  unfold edQ;rw [List.range_succ,List.filter_append];simp [h]
theorem edQ_F {e i k:Nat} (h:edgeOn e i k=false):edQ e i (k+1)=edQ e i k:=by
  unfold edQ;rw [List.range_succ,List.filter_append];simp [h]
theorem edQ_le (e i k:Nat):(edQ e i k).length≤k:=by
  unfold edQ;rw [List.length_map];exact Nat.le_trans (List.length_filter_le _ _) sM
theorem edP_le (e n:Nat):∀ i,(edP e n i).length≤i*n
  | 0=>by simp [edP]
  | i+1=>by rw [edP_succ,List.length_append,Nat.succ_mul];have:=edP_le e n i;have:=edQ_le e i n;omega
theorem on_no {e i k:Nat} (h:i=k):edgeOn e i k=false:=by unfold edgeOn;simp [h]
theorem on_next {e i k:Nat} (h:k=i+1):edgeOn e i k=true:=by unfold edgeOn;subst h;simp
theorem on_bit {e i k:Nat} (h:¬ i=k) (h2:¬ k=i+1):edgeOn e i k=decide (e / 2 ^ (5*i+k) % 2=1):=by unfold edgeOn;simp [h,h2]
theorem vers_next {np q j:Nat} (h:j<vcnt q):(versMd np q).take (j+1)=(versMd np q).take j++[(((q / 24+j*(1+q / 96 % 2)) % np:Nat):Int)]:=by
  refine take_next ?_
  unfold versMd
  rw [List.getElem?_map,List.getElem?_range h];rfl
theorem vers_len (np q:Nat):(versMd np q).length=vcnt q:=by unfold versMd;simp
theorem ints_vers {G:Ghost} {v:Value} {np q:Nat} (h:Sl G v 1 (vcnt q) ((versMd np q).map (.int .i64))):Ints G v (versMd np q):=by unfold Ints;rw [vers_len];exact h
theorem rmad_ok {G:Ghost} {sz p0 p1 p2 p3 n0 n1 n2 n3 n4:UInt8} {ed r0 r1 r2:Nat} (he:ed<4294967296) (h0:r0<65536) (h1:r1<65536) (h2:r2<65536) :
  FnOk prog 12 [.agg #[.int .u8 (sz.toNat:Int),.int .u8 (p0.toNat:Int),.int .u8 (p1.toNat:Int),.int .u8 (p2.toNat:Int),.int .u8 (p3.toNat:Int),.int .u8 (n0.toNat:Int),.int .u8 (n1.toNat:Int),.int .u8 (n2.toNat:Int),.int .u8 (n3.toNat:Int),.int .u8 (n4.toNat:Int),.int .u32 (ed:Int),.int .u16 (r0:Int),.int .u16 (r1:Int),.int .u16 (r2:Int)]] G [] fun r G' H'=>H'=[]∧FltR G' r (madeF (rawM sz p0 p1 p2 p3 n0 n1 n2 n3 n4 ed r0 r1 r2)):=by
 obtain ⟨f,hfe⟩:∃ f,f=madeF (rawM sz p0 p1 p2 p3 n0 n1 n2 n3 n4 ed r0 r1 r2):=⟨_,rfl⟩
 have hok:=rawM_ok (sz:=sz) (p0:=p0) (p1:=p1) (p2:=p2) (p3:=p3) (n0:=n0) (n1:=n1) (n2:=n2) (n3:=n3) (n4:=n4) (ed:=ed) (r0:=r0) (r1:=r1) (r2:=r2) h0 h1 h2
 have hrp:=fun i (h:i<(pcnt sz.toNat))=>raw_p (sz:=sz) (p0:=p0) (p1:=p1) (p2:=p2) (p3:=p3) (n0:=n0) (n1:=n1) (n2:=n2) (n3:=n3) (n4:=n4) (ed:=ed) (r0:=r0) (r1:=r1) (r2:=r2) h
 have hrn:=fun i (h:i<(ncnt sz.toNat))=>raw_n (sz:=sz) (p0:=p0) (p1:=p1) (p2:=p2) (p3:=p3) (n0:=n0) (n1:=n1) (n2:=n2) (n3:=n3) (n4:=n4) (ed:=ed) (r0:=r0) (r1:=r1) (r2:=r2) h
 have hrr:=fun i (h:i<(rcnt sz.toNat))=>raw_r (sz:=sz) (p0:=p0) (p1:=p1) (p2:=p2) (p3:=p3) (n0:=n0) (n1:=n1) (n2:=n2) (n3:=n3) (n4:=n4) (ed:=ed) (r0:=r0) (r1:=r1) (r2:=r2) h0 h1 h2 h
 have hfp:f.progs.length=(pcnt sz.toNat):=by rw [hfe,made_p hok];rfl
 have hfn:f.nodes.length=(ncnt sz.toNat):=by rw [hfe,made_n hok];rfl
 have hfrl:f.routes.length=(rcnt sz.toNat):=by rw [hfe,made_r hok];rfl
 have hfed:f.edges=edgesMd ed (ncnt sz.toNat):=by rw [hfe];rfl
 simp only [← hfe] at hrp hrn hrr
 have hpc:=pcnt_le sz.toNat
 have hnc:=ncnt_le sz.toNat
 have hrc:=rcnt_le sz.toNat
 have hsz:=sz.toNat_lt
 have hed25:f.edges.length≤25:=by rw [hfed];exact Nat.le_trans (edP_le ed (ncnt sz.toNat) (ncnt sz.toNat)) (Nat.mul_le_mul hnc.2 hnc.2)
 refine FnOk.of_T [(0,_)] func12 rfl ntmps12 sM rfl fun w0 hs =>Wt 2 [] hs rfl<|O_s (Sb hs rfl fun b1 _ hs=>O_s (Sa hs zeroValue38 rfl fun b2 _ hs=>Wp 3 [0] hs rfl<|Zy hs (Y_build zeroValue38 rfl PL38 rfl (cs:=[_,_,_,_]) rfl<|O_s (Sa hs zeroValue38 rfl fun b3 _ hs=>O_n (S_stA hs sizeOf38 rfl rfl (vs:=[_,_,_,_]) rfl (rfl) sM (cs':=[_,_,_,_]) rfl fun _ hs =>Wp 6 [0,0] hs rfl ?_)))))
 have hs:=hs.nilRow 70 2
 have hs:=hs.f2.f3.f3.f3
 refine Zl [1,2,3,4] (fun m E w=>∃ (i:Nat) (vp:Value) (css:List (List Value)) (G2:Ghost),i≤(pcnt sz.toNat)∧AccP G2 css (f.progs.take i)∧m=(pcnt sz.toNat)-i∧E=⟨[],[(1,Vp b1),(2,Vp b2),(3,Vp b3),(4,Vi (i:Int))]⟩∧St ⟨w0,G,feet []⟩ G2 [.row 70 2 vp i css.flatten,.blk b3 38 [vp,Vn,Vn,Vn],.blk b1 28 [.int .u8 (sz.toNat:Int),.int .u8 (p0.toNat:Int),.int .u8 (p1.toNat:Int),.int .u8 (p2.toNat:Int),.int .u8 (p3.toNat:Int),.int .u8 (n0.toNat:Int),.int .u8 (n1.toNat:Int),.int .u8 (n2.toNat:Int),.int .u8 (n3.toNat:Int),.int .u8 (n4.toNat:Int),.int .u32 (ed:Int),.int .u16 (r0:Int),.int .u16 (r1:Int),.int .u16 (r2:Int)],.blk b2 38 [Vn,Vn,Vn,Vn]] w) rfl (⟨0,_,[],_,by omega,⟨trivial,by simp⟩,rfl,rfl,hs⟩) fun m E w hI=>?_
 obtain ⟨i,vp,css,G2,hi,hA,rfl,rfl,hs⟩:=hI
 refine Wt 6 [0,2] hs rfl<|Zy hs (Y_conv underlying5 underlying3 (c:=(sz.toNat:Int)) rfl Z39<|Zy hs (Y_rem (c:=((sz.toNat % 3:Nat):Int)) rfl rfl oM oM oM<|Zy hs (Y_add (c:=((pcnt sz.toNat:Nat):Int)) rfl rfl (by unfold pcnt;omega) oM<|Zy hs (Yc rfl (fun h21=>?_) fun h21=>?_))))
 ·
  refine Wp 3 [0] hs rfl ?_
  obtain ⟨q,hq,hPi⟩:=hrp i oM
  refine Wu 2 [] hs rfl<|T_drawS [0,1,2,3,4,5,6,7] hs kR ?_
  replace hs:=hs.drew
  refine Xr [0,1,2,3] [0,1,1] hs rfl<|Xt 4 hs rfl (Y_idxArr i underlying22 sizeOf5 rfl rfl rfl oM (m:=1+i*1) rfl<|Xt 5 hs rfl (Y_ld 2 isAgg5 rfl rfl hq ?_))
  have hle:=hs.le
  refine Xo 6 rfl (Sc (rsml_ok (k:=q)) hs rfl fun v1 G' H' _ hR hG30 hs=>?_)
  obtain ⟨rfl,wa,wb,rfl,hPg⟩:=hR
  replace hs:=hs.n rfl
  replace hA:=hA.mono hG30
  obtain ⟨Aa,ka,Ab,kb,rfl,rfl⟩:=hPg.slices
  refine A_moreS hs hle hG30 (List.Sublist.refl _) ?_
  have hle:=hs.le
  refine Xo 7 rfl (S_lit hs underlying33 sizeOf70 zeroValue70 rfl rfl dC dC rfl (cs:=[_,_]) rfl rfl fun v2 _ hs _=>?_)
  obtain ⟨_,hG31,hl31,hs⟩:=hs.fixRow noM
  replace hA:=hA.mono hG31
  replace hPg:=hPg.mono hG31
  refine A_moreS hs hle hG31 (List.Sublist.refl _)<|Xa 8 rfl (S_append hs underlying33 TI70 rfl dC rfl rfl (hl31) ((all_one rfl)) oM oM fun v3 _ hs =>Xa 9 rfl (S_y hs rfl (Yf 0 rfl<|Xn 10 rfl (Sd hs.f1 rfl (hs.f1.rowOne 1 rfl) fun _ hs=>Xe (Zk [1,2,3,4] rfl<|Wu 2 [] hs rfl<|Zy hs (Ya (s:=((i+1:Nat):Int)) rfl<|Wp 1 [] hs rfl ?_))))))
  have hs:=hs.f3.f3.f2.f3
  refine Zx [1,2,3,4] rfl ⟨i+1,_,css++[[.slice Aa (smallP (q.toNat % 14)).stmts.length ka,.slice Ab (smallP (q.toNat % 14)).blocks.length kb]],_,by omega,(by rw [take_next hPi];exact hA.snoc hPg rfl),rfl,rfl,castR (hs.weak hs.le (Ghost.le.refl _) (List.sublist_append_left [_,_,_,_] _)) sM⟩
 refine Wp 3 [0] hs rfl ?_
 have hin:i=(pcnt sz.toNat):=by omega
 rw [hin] at hA hs
 rw [List.take_of_length_le (by rw [hfp];exact Nat.le_refl _)] at hA
 obtain ⟨_,hG_hfv,hfv,hs⟩:=hs.fixRow noM
 replace hA:=hA.mono hG_hfv
 have hPg0:Pgs _ _ f.progs:=hA.fin hfv hfp.symm
 obtain ⟨Ap,cp,hpe⟩:=LstR.slice hPg0
 subst hpe
 refine Wu 4 [0,1] hs rfl<|Zy hs (Y_conv underlying5 underlying3 (c:=(sz.toNat:Int)) rfl Z39<|Zy hs (Y_quo (c:=((sz.toNat / 3:Nat):Int)) rfl rfl oM oM oM<|Zy hs (Y_rem (c:=((sz.toNat / 3 % 4:Nat):Int)) rfl rfl oM oM oM<|Zy hs (Y_add (c:=((ncnt sz.toNat:Nat):Int)) rfl rfl (by unfold ncnt;omega) oM<|Wp 7 [0,0] hs rfl ?_))))
 have hs:=hs.nilRow 61 4
 have hs:=hs.f3.f3.f3.f3
 refine Zl [1,2,3,5,6] (fun m E w=>∃ (i:Nat) (vn:Value) (css:List (List Value)) (G2:Ghost),i≤(ncnt sz.toNat)∧AccN G2 css (f.nodes.take i)∧Pgs G2 (.slice Ap f.progs.length cp) f.progs∧m=(ncnt sz.toNat)-i∧E=⟨[],[(1,Vp b1),(2,Vp b2),(3,Vp b3),(5,Vi (((ncnt sz.toNat:Nat):Int))),(6,Vi (i:Int))]⟩∧St ⟨w0,G,feet []⟩ G2 [.row 61 4 vn i css.flatten,.blk b3 38 [.slice Ap f.progs.length cp,vn,Vn,Vn],.blk b1 28 [.int .u8 (sz.toNat:Int),.int .u8 (p0.toNat:Int),.int .u8 (p1.toNat:Int),.int .u8 (p2.toNat:Int),.int .u8 (p3.toNat:Int),.int .u8 (n0.toNat:Int),.int .u8 (n1.toNat:Int),.int .u8 (n2.toNat:Int),.int .u8 (n3.toNat:Int),.int .u8 (n4.toNat:Int),.int .u32 (ed:Int),.int .u16 (r0:Int),.int .u16 (r1:Int),.int .u16 (r2:Int)],.blk b2 38 [Vn,Vn,Vn,Vn]] w) rfl (⟨0,_,[],_,by omega,⟨trivial,by simp⟩,hPg0,rfl,rfl,hs⟩) fun m E w hI=>?_
 obtain ⟨i,vn,css,G2,hi,hA,hPg0,rfl,rfl,hs⟩:=hI
 refine Wt 5 [] hs rfl<|Zy hs (Yc rfl (fun h42=>?_) fun h42=>?_)
 ·
  refine Wp 3 [0] hs rfl ?_
  obtain ⟨q,hq,hNi⟩:=hrn i oM
  have hq8:=q.toNat_lt
  refine Wu 6 [5] hs rfl<|Zy hs (Y_idxArr i underlying23 sizeOf5 rfl rfl rfl oM (m:=5+i * 1) rfl<|Zy hs (Y_ld 2 isAgg5 rfl rfl hq<|Zy hs (Y_conv underlying5 underlying3 (c:=(q.toNat:Int)) rfl Z39<|Wp 5 [0] hs rfl<|Zy hs (Y_rem (c:=((q.toNat % 8:Nat):Int)) rfl rfl oM oM oM<|Zy hs (Y_cmpB (t:=decide (0<q.toNat % 8)) rfl rfl rfl gt_iff<|Zy hs (Y_build zeroValue61 rfl PL61 rfl (cs:=[_,_,_,_]) rfl<|O_s (Sa hs zeroValue61 rfl fun b8 _ hs=>O_n (S_stA hs sizeOf61 rfl rfl (vs:=[_,_,_,_]) rfl (rfl) sM (cs':=[_,_,_,_]) rfl fun _ hs =>Wp 6 [0,0] hs rfl ?_))))))))
  have hs:=hs.nilRow 3 1
  have hs:=hs.f5.f5.f5.f5.f5.f5
  refine Zl [1,2,3,5,6,7,8,9] (fun m E w=>∃ (j:Nat) (vv:Value) (G2:Ghost),j≤vcnt q.toNat∧AccN G2 css (f.nodes.take i)∧Pgs G2 (.slice Ap f.progs.length cp) f.progs∧m=vcnt q.toNat-j∧E=⟨[],[(1,Vp b1),(2,Vp b2),(3,Vp b3),(5,Vi (((ncnt sz.toNat:Nat):Int))),(6,Vi (i:Int)),(7,Vi (q.toNat:Int)),(8,Vp b8),(9,Vi (j:Int))]⟩∧St ⟨w0,G,feet []⟩ G2 [.row 3 1 vv j (((versMd (pcnt sz.toNat) q.toNat).take j).map (.int .i64)),.blk b8 61 [vv,Vi 0,Vi 0,.bool (decide (0<q.toNat % 8))],.row 61 4 vn i css.flatten,.blk b3 38 [.slice Ap f.progs.length cp,vn,Vn,Vn],.blk b1 28 [.int .u8 (sz.toNat:Int),.int .u8 (p0.toNat:Int),.int .u8 (p1.toNat:Int),.int .u8 (p2.toNat:Int),.int .u8 (p3.toNat:Int),.int .u8 (n0.toNat:Int),.int .u8 (n1.toNat:Int),.int .u8 (n2.toNat:Int),.int .u8 (n3.toNat:Int),.int .u8 (n4.toNat:Int),.int .u32 (ed:Int),.int .u16 (r0:Int),.int .u16 (r1:Int),.int .u16 (r2:Int)],.blk b2 38 [Vn,Vn,Vn,Vn]] w) rfl (⟨0,_,_,Nat.zero_le _,hA,hPg0,rfl,rfl,hs⟩) fun m E w hI=>?_
  obtain ⟨j,vv,G2,hj,hA,hPg0,rfl,rfl,hs⟩:=hI
  refine Wt 5 [] hs rfl<|Zy hs (Y_quo (c:=((q.toNat / 8:Nat):Int)) rfl rfl oM oM oM<|Zy hs (Y_rem (c:=((q.toNat / 8 % 3:Nat):Int)) rfl rfl oM oM oM<|Zy hs (Y_add (c:=((vcnt q.toNat:Nat):Int)) rfl rfl (by unfold vcnt;omega) (by have:=vcnt_le q.toNat;omega)<|Zy hs (Yc rfl (fun h59=>?_) fun h59=>?_))))
  ·
   refine Wp 3 [0] hs rfl ?_
   have hvc:=vcnt_le q.toNat
   have hjb:j*(1+q.toNat / 96 % 2)≤3*2:=Nat.mul_le_mul oM oM
   refine Wu 2 [] hs rfl<|T_drawS [0,1,2,3,4,5,6,7,8,9,10,11,12,13,14,15] hs kR ?_
   replace hs:=hs.drew
   refine Xr [0,1,2] [0,1] hs rfl<|Xt 3 hs rfl (Y_quo (c:=((q.toNat / 24:Nat):Int)) rfl rfl oM oM oM<|Xr [4,5] [] hs rfl<|Xt 6 hs rfl (Y_quo (c:=((q.toNat / 96:Nat):Int)) rfl rfl oM oM oM<|Xt 7 hs rfl (Y_rem (c:=((q.toNat / 96 % 2:Nat):Int)) rfl rfl oM oM oM<|Xt 8 hs rfl (Ya (s:=((1+q.toNat / 96 % 2:Nat):Int)) rfl<|Xt 9 hs rfl (Y_mul (c:=((j*(1+q.toNat / 96 % 2):Nat):Int)) rfl rfl (by exact (Int.natCast_mul _ _).symm) oM<|Xt 10 hs rfl (Y_add (c:=((q.toNat / 24+j*(1+q.toNat / 96 % 2):Nat):Int)) rfl rfl (by exact (Int.natCast_add _ _).symm) oM<|Xr [11,12,13] [0,3] hs rfl<|Xt 14 hs rfl (Y_rem (c:=(((q.toNat / 24+j*(1+q.toNat / 96 % 2)) % (pcnt sz.toNat):Nat):Int)) rfl rfl (Int.natCast_nonneg _) oM (by rw [hfp];exact (Int.natCast_emod _ _).symm) ?_)))))))
   have hle:=hs.le
   refine Xo 15 rfl (S_lit hs underlying45 sizeOf3 zeroValue3 rfl rfl dC dC rfl (cs:=[_]) rfl rfl fun v4 _ hs _=>?_)
   obtain ⟨_,hG77,hl77,hs⟩:=hs.fixRow noM
   replace hA:=hA.mono hG77
   replace hPg0:=hPg0.mono hG77
   refine A_moreS hs hle hG77 (List.Sublist.refl _)<|Xa 16 rfl (S_append hs underlying45 TI3 rfl dC rfl rfl (hl77) (one1 rfl) oM oM fun v5 _ hs =>Xa 17 rfl (S_y hs rfl (Yf 0 rfl<|Xn 18 rfl (Sd hs.f1 rfl (hs.f1.rowOne 1 rfl) fun _ hs=>Xe (Zk [1,2,3,5,6,7,8,9] rfl<|Wu 2 [] hs rfl<|Zy hs (Ya (s:=((j+1:Nat):Int)) rfl<|Wp 1 [] hs rfl ?_))))))
   have hs:=hs.f5.f5.f5.f5.f4.f5
   refine Zx [1,2,3,5,6,7,8,9] rfl ⟨j+1,_,_,by omega,hA,hPg0,rfl,rfl,castR (hs.weak hs.le (Ghost.le.refl _) (List.sublist_append_left [_,_,_,_,_,_] _)) (by rw [vers_next oM,List.map_append];rfl)⟩
  refine Wp 3 [0] hs rfl ?_
  have hjv:j=vcnt q.toNat:=by omega
  rw [hjv,List.take_of_length_le (by rw [vers_len];exact Nat.le_refl _)] at hs
  obtain ⟨_,hG_hfw,hfw,hs⟩:=hs.fixRow noM
  replace hA:=hA.mono hG_hfw
  replace hPg0:=hPg0.mono hG_hfw
  have hIv:=ints_vers hfw
  obtain ⟨Av,cv,hve,_⟩:=id hfw
  subst hve
  have hvc:=vcnt_le q.toNat
  refine Wu 3 [] hs rfl<|Zy hs (Y_quo (c:=((q.toNat / 2:Nat):Int)) rfl rfl oM oM oM<|Wp 3 [0,0] hs rfl<|Zy hs (Y_rem (c:=((q.toNat / 2 % vcnt q.toNat:Nat):Int)) rfl rfl oM oM (Int.natCast_emod _ _).symm<|Wp 1 [1] hs rfl<|O_n (Sd hs rfl rfl fun _ hs=>Wp 6 [0,1,0,2] hs rfl<|O_n (Sd hs rfl rfl fun _ hs=>Wp 5 [0,1,2,0] hs rfl<|O_s (S_lit hs underlying34 sizeOf61 zeroValue61 rfl rfl dC dC rfl (cs:=[_,_,_,_]) rfl rfl fun v6 _ hs _=>?_)))))
  obtain ⟨_,hG93,hl93,hs⟩:=hs.fixRow noM
  replace hA:=hA.mono hG93
  replace hPg0:=hPg0.mono hG93
  replace hIv:=hIv.mono hG93
  refine O_s (S_append hs.f1 underlying34 TI61 rfl dC rfl rfl (hl93) ((all_one rfl)) oM oM fun v7 _ hs =>Wp 1 [1] hs rfl<|O_n (Sd hs.f2 rfl (hs.f2.rowOne 1 rfl) fun _ hs=>Wp 3 [5,1,2,3,5,6] hs rfl<|Zy hs (Ya (s:=((i+1:Nat):Int)) rfl<|Wp 1 [] hs rfl ?_)))
  have hs:=hs.f4.f4.f2.f3
  refine Zx [1,2,3,5,6] rfl ⟨i+1,_,css++[[.slice Av (vcnt q.toNat) cv,Vi ((q.toNat / 2 % vcnt q.toNat):Int),Vi ((q.toNat / 2 % vcnt q.toNat):Int),.bool (decide (0<q.toNat % 8))]],_,by omega,(by rw [take_next hNi];exact hA.snoc ⟨_,rfl,hIv⟩ rfl),hPg0,rfl,rfl,castR (hs.weak hs.le (Ghost.le.refl _) (List.sublist_append_left [_,_,_,_] _)) sM⟩
 refine Wp 3 [0] hs rfl ?_
 have hin:i=(ncnt sz.toNat):=by omega
 rw [hin] at hA hs
 rw [List.take_of_length_le (by rw [hfn];exact Nat.le_refl _)] at hA
 obtain ⟨_,hG_hfv,hfv,hs⟩:=hs.fixRow noM
 replace hA:=hA.mono hG_hfv
 replace hPg0:=hPg0.mono hG_hfv
 have hNd0:Nds _ _ f.nodes:=hA.fin hfv hfn.symm
 obtain ⟨An,cn,hne⟩:=LstR.slice hNd0
 subst hne
 refine Wu 5 [0] hs rfl ?_
 have hs:=hs.nilRow 31 2
 have hs:=hs.f3.f3.f3.f3
 refine Zl [1,2,3,5,10] (fun m E w=>∃ (i:Nat) (ve:Value) (G2:Ghost),i≤(ncnt sz.toNat)∧Pgs G2 (.slice Ap f.progs.length cp) f.progs∧Nds G2 (.slice An f.nodes.length cn) f.nodes∧m=(ncnt sz.toNat)-i∧E=⟨[],[(1,Vp b1),(2,Vp b2),(3,Vp b3),(5,Vi (((ncnt sz.toNat:Nat):Int))),(10,Vi (i:Int))]⟩∧St ⟨w0,G,feet []⟩ G2 [.row 31 2 ve (edP ed (ncnt sz.toNat) i).length (prL (edP ed (ncnt sz.toNat) i)),.blk b3 38 [.slice Ap f.progs.length cp,.slice An f.nodes.length cn,ve,Vn],.blk b1 28 [.int .u8 (sz.toNat:Int),.int .u8 (p0.toNat:Int),.int .u8 (p1.toNat:Int),.int .u8 (p2.toNat:Int),.int .u8 (p3.toNat:Int),.int .u8 (n0.toNat:Int),.int .u8 (n1.toNat:Int),.int .u8 (n2.toNat:Int),.int .u8 (n3.toNat:Int),.int .u8 (n4.toNat:Int),.int .u32 (ed:Int),.int .u16 (r0:Int),.int .u16 (r1:Int),.int .u16 (r2:Int)],.blk b2 38 [Vn,Vn,Vn,Vn]] w) rfl (⟨0,_,_,by omega,hPg0,hNd0,rfl,rfl,hs⟩) fun m E w hI=>?_
 obtain ⟨i,ve,G2,hi,hPg0,hNd0,rfl,rfl,hs⟩:=hI
 refine Wt 5 [] hs rfl<|Zy hs (Yc rfl (fun h98=>?_) fun h98=>?_)
 ·
  refine Wp 9 [0,0] hs rfl ?_
  have hs:=hs.f3.f3.f3.f3
  refine Zl [1,2,3,5,10,11] (fun m E w=>∃ (k:Nat) (ve:Value) (G2:Ghost),k≤(ncnt sz.toNat)∧Pgs G2 (.slice Ap f.progs.length cp) f.progs∧Nds G2 (.slice An f.nodes.length cn) f.nodes∧m=(ncnt sz.toNat)-k∧E=⟨[],[(1,Vp b1),(2,Vp b2),(3,Vp b3),(5,Vi (((ncnt sz.toNat:Nat):Int))),(10,Vi (i:Int)),(11,Vi (k:Int))]⟩∧St ⟨w0,G,feet []⟩ G2 [.row 31 2 ve (edP ed (ncnt sz.toNat) i++edQ ed i k).length (prL (edP ed (ncnt sz.toNat) i++edQ ed i k)),.blk b3 38 [.slice Ap f.progs.length cp,.slice An f.nodes.length cn,ve,Vn],.blk b1 28 [.int .u8 (sz.toNat:Int),.int .u8 (p0.toNat:Int),.int .u8 (p1.toNat:Int),.int .u8 (p2.toNat:Int),.int .u8 (p3.toNat:Int),.int .u8 (n0.toNat:Int),.int .u8 (n1.toNat:Int),.int .u8 (n2.toNat:Int),.int .u8 (n3.toNat:Int),.int .u8 (n4.toNat:Int),.int .u32 (ed:Int),.int .u16 (r0:Int),.int .u16 (r1:Int),.int .u16 (r2:Int)],.blk b2 38 [Vn,Vn,Vn,Vn]] w) rfl (⟨0,ve,_,by omega,hPg0,hNd0,rfl,rfl,castH hs (by simp [edQ])⟩) fun m E w hI=>?_
  obtain ⟨k,ve,G2,hk,hPg0,hNd0,rfl,rfl,hs⟩:=hI
  refine Wt 5 [] hs rfl<|Zy hs (Yc rfl (fun h103=>?_) fun h103=>?_)
  ·
   refine Wp 9 [0] hs rfl<|Zy hs (Ya (s:=((i+1:Nat):Int)) rfl<|Zy hs (Yc rfl (fun h109=>?_) fun h109=>?_))
   ·
    refine Wp 6 [0] hs rfl<|Zy hs (Yc rfl (fun h112=>?_) fun h112=>?_)
    ·
     refine Wp 15 [7,1,2,3,5,10,11,126] hs rfl ?_
     have hel:(edP ed (ncnt sz.toNat) i).length≤25:=Nat.le_trans (edP_le _ _ _) (Nat.mul_le_mul (show i≤5 by omega) hnc.2)
     have hql:=edQ_le ed i k
     have hqa:(edP ed (ncnt sz.toNat) i++edQ ed i k).length=(edP ed (ncnt sz.toNat) i).length+(edQ ed i k).length:=List.length_append
     refine Wu 6 [2,1] hs rfl<|Zy hs (Y_buildA underlying31 sizeOf3 zeroValue31 rfl rfl (cs:=[_,_]) rfl<|O_s (S_lit hs underlying35 sizeOf31 zeroValue31 rfl rfl dC dC rfl (cs:=[_,_]) rfl rfl fun v8 _ hs _=>?_))
     obtain ⟨_,hG132,hl132,hs⟩:=hs.fixRow noM
     replace hPg0:=hPg0.mono hG132
     replace hNd0:=hNd0.mono hG132
     refine O_s (S_append hs underlying35 TI31 rfl dC rfl rfl (hl132) ((all_one rfl)) oM (by rw [List.length_append];omega) fun v9 _ hs =>Wp 1 [2] hs rfl<|O_n (Sd hs.f1 rfl (hs.f1.rowOne 1 rfl) fun _ hs=>Wp 3 [0] hs rfl<|Zy hs (Ya (s:=((k+1:Nat):Int)) rfl<|Wp 1 [] hs rfl ?_)))
     have hs:=hs.f3.f3.f2.f3
     refine Zx [1,2,3,5,10,11] rfl ⟨k+1,v9,_,by omega,hPg0,hNd0,rfl,rfl,castH (hs.weak hs.le (Ghost.le.refl _) (List.sublist_append_left [_,_,_,_] _)) (by rw [edQ_T (on_next oM)];simp [prL_app,prL,prC,Nat.add_assoc])⟩
    refine Wp 3 [] hs rfl<|O_noU 115 rfl rfl<|O_noU 115 rfl rfl<|O_noU 115 rfl rfl<|O_noU 115 rfl rfl<|O_noU 115 rfl rfl<|O_noU 115 rfl rfl<|O_noU 115 rfl rfl<|O_noU 115 rfl rfl<|O_noU 115 rfl rfl<|Wp 7 [0] hs rfl<|Zy hs (Ya (s:=((k+1:Nat):Int)) rfl<|Wp 1 [] hs rfl ?_)
    have hs:=hs.f3.f3.f3.f3
    refine Zx [1,2,3,5,10,11] rfl ⟨k+1,ve,_,by omega,hPg0,hNd0,rfl,rfl,castH (hs.weak hs.le (Ghost.le.refl _) (List.sublist_append_left [_,_,_,_] _)) (by rw [edQ_F (on_no oM)])⟩
   refine Wp 6 [0] hs rfl<|Zy hs (Yc rfl (fun h112=>?_) fun h112=>?_)
   ·
    refine Wp 6 [10,2] hs rfl<|Zg hs rfl (Y_mul (c:=((5*i:Nat):Int)) rfl rfl oM oM<|Wp 1 [] hs rfl<|Zg hs rfl (Ya (s:=((5*i+k:Nat):Int)) rfl<|Zg hs rfl (Y_shr (c:=((ed / 2 ^ (5*i+k):Nat):Int)) rfl rfl oM (shr32 _ _ oM)<|Zg hs rfl (Y_rem (c:=((ed / 2 ^ (5*i+k) % 2:Nat):Int)) rfl rfl (Int.natCast_nonneg _) oM oM<|Zg hs rfl (Yc rfl (fun h124=>?_) fun h124=>?_)))))
    ·
     refine Wp 3 [7,1,2,3,5,10,11,126] hs rfl ?_
     have hel:(edP ed (ncnt sz.toNat) i).length≤25:=Nat.le_trans (edP_le _ _ _) (Nat.mul_le_mul (show i≤5 by omega) hnc.2)
     have hql:=edQ_le ed i k
     have hqa:(edP ed (ncnt sz.toNat) i++edQ ed i k).length=(edP ed (ncnt sz.toNat) i).length+(edQ ed i k).length:=List.length_append
     refine Wu 6 [2,1] hs rfl<|Zy hs (Y_buildA underlying31 sizeOf3 zeroValue31 rfl rfl (cs:=[_,_]) rfl<|O_s (S_lit hs underlying35 sizeOf31 zeroValue31 rfl rfl dC dC rfl (cs:=[_,_]) rfl rfl fun v10 _ hs _=>?_))
     obtain ⟨_,hG132,hl132,hs⟩:=hs.fixRow noM
     replace hPg0:=hPg0.mono hG132
     replace hNd0:=hNd0.mono hG132
     refine O_s (S_append hs underlying35 TI31 rfl dC rfl rfl (hl132) ((all_one rfl)) oM (by rw [List.length_append];omega) fun v11 _ hs =>Wp 1 [2] hs rfl<|O_n (Sd hs.f1 rfl (hs.f1.rowOne 1 rfl) fun _ hs=>Wp 3 [0] hs rfl<|Zy hs (Ya (s:=((k+1:Nat):Int)) rfl<|Wp 1 [] hs rfl ?_)))
     have hs:=hs.f3.f3.f2.f3
     refine Zx [1,2,3,5,10,11] rfl ⟨k+1,v11,_,by omega,hPg0,hNd0,rfl,rfl,castH (hs.weak hs.le (Ghost.le.refl _) (List.sublist_append_left [_,_,_,_] _)) (by rw [edQ_T (((on_bit oM oM).trans (decide_eq_true oM)))];simp [prL_app,prL,prC,Nat.add_assoc])⟩
    refine Wp 7 [7,1,2,3,5,10,11,126] hs rfl<|Zy hs (Ya (s:=((k+1:Nat):Int)) rfl<|Wp 1 [] hs rfl ?_)
    have hs:=hs.f3.f3.f3.f3
    refine Zx [1,2,3,5,10,11] rfl ⟨k+1,ve,_,by omega,hPg0,hNd0,rfl,rfl,castH (hs.weak hs.le (Ghost.le.refl _) (List.sublist_append_left [_,_,_,_] _)) (by rw [edQ_F (((on_bit oM oM).trans (decide_eq_false oM)))])⟩
   refine Wp 3 [] hs rfl<|O_noU 115 rfl rfl<|O_noU 115 rfl rfl<|O_noU 115 rfl rfl<|O_noU 115 rfl rfl<|O_noU 115 rfl rfl<|O_noU 115 rfl rfl<|O_noU 115 rfl rfl<|O_noU 115 rfl rfl<|O_noU 115 rfl rfl<|Wp 7 [0] hs rfl<|Zy hs (Ya (s:=((k+1:Nat):Int)) rfl<|Wp 1 [] hs rfl ?_)
   have hs:=hs.f3.f3.f3.f3
   refine Zx [1,2,3,5,10,11] rfl ⟨k+1,ve,_,by omega,hPg0,hNd0,rfl,rfl,castH (hs.weak hs.le (Ghost.le.refl _) (List.sublist_append_left [_,_,_,_] _)) (by rw [edQ_F (on_no oM)])⟩
  refine Wp 3 [0] hs rfl ?_
  have hkn:k=(ncnt sz.toNat):=by omega
  rw [hkn,← edP_succ] at hs
  refine Wu 2 [] hs rfl<|Zy hs (Ya (s:=((i+1:Nat):Int)) rfl<|Wp 1 [] hs rfl ?_)
  have hs:=hs.f3.f3.f3.f3
  refine Zx [1,2,3,5,10] rfl ⟨i+1,_,_,by omega,hPg0,hNd0,rfl,rfl,hs.weak hs.le (Ghost.le.refl _) (List.sublist_append_left [_,_,_,_] _)⟩
 refine Wp 3 [0] hs rfl ?_
 have hin:i=(ncnt sz.toNat):=by omega
 rw [hin] at hs
 obtain ⟨_,hG_hfv,hfv,hs⟩:=hs.fixRow noM
 replace hPg0:=hPg0.mono hG_hfv
 replace hNd0:=hNd0.mono hG_hfv
 have hEd0:=eds_of (q:=edgesMd ed (ncnt sz.toNat)) hfv
 rw [← hfed] at hEd0
 obtain ⟨Ae,ce,hee⟩:=LstR.slice hEd0
 subst hee
 refine Wu 5 [0] hs rfl ?_
 have hs:=hs.nilRow 45 1
 have hs:=hs.f3.f3.f3.f3
 refine Zl [1,2,3,13] (fun m E w=>∃ (r:Nat) (vr:Value) (rs:List Value) (G2:Ghost),r≤(rcnt sz.toNat)∧LRowI G2 rs (f.routes.take r)∧Pgs G2 (.slice Ap f.progs.length cp) f.progs∧Nds G2 (.slice An f.nodes.length cn) f.nodes∧Eds G2 (.slice Ae f.edges.length ce) f.edges∧m=(rcnt sz.toNat)-r∧E=⟨[],[(1,Vp b1),(2,Vp b2),(3,Vp b3),(13,Vi (r:Int))]⟩∧St ⟨w0,G,feet []⟩ G2 [.row 45 1 vr r rs,.blk b3 38 [.slice Ap f.progs.length cp,.slice An f.nodes.length cn,.slice Ae f.edges.length ce,vr],.blk b1 28 [.int .u8 (sz.toNat:Int),.int .u8 (p0.toNat:Int),.int .u8 (p1.toNat:Int),.int .u8 (p2.toNat:Int),.int .u8 (p3.toNat:Int),.int .u8 (n0.toNat:Int),.int .u8 (n1.toNat:Int),.int .u8 (n2.toNat:Int),.int .u8 (n3.toNat:Int),.int .u8 (n4.toNat:Int),.int .u32 (ed:Int),.int .u16 (r0:Int),.int .u16 (r1:Int),.int .u16 (r2:Int)],.blk b2 38 [Vn,Vn,Vn,Vn]] w) rfl (⟨0,_,[],_,by omega,trivial,hPg0,hNd0,hEd0,rfl,rfl,hs⟩) fun m E w hI=>?_
 obtain ⟨r,vr,rs,G2,hr,hLr,hPg0,hNd0,hEd0,rfl,rfl,hs⟩:=hI
 refine Wt 6 [0,2] hs rfl<|Zy hs (Y_conv underlying5 underlying3 (c:=(sz.toNat:Int)) rfl Z39<|Zy hs (Y_quo (c:=((sz.toNat / 12:Nat):Int)) rfl rfl oM oM oM<|Zy hs (Y_rem (c:=((sz.toNat / 12 % 3:Nat):Int)) rfl rfl oM oM oM<|Zy hs (Y_add (c:=((rcnt sz.toNat:Nat):Int)) rfl rfl (by unfold rcnt;omega) oM<|Zy hs (Yc rfl (fun h142=>?_) fun h142=>?_)))))
 ·
  refine Wp 3 [0] hs rfl ?_
  obtain ⟨q,hq6,hq,hRi⟩:=hrr r oM
  refine Wu 2 [] hs rfl<|T_drawS [0,1,2,3,4,5,6,7,8] hs kR ?_
  replace hs:=hs.drew
  refine Xr [0,1,2,3,4] [3,1,1,11] hs rfl<|Xt 5 hs rfl (Y_idxArr r underlying26 sizeOf25 rfl rfl rfl oM (m:=11+r*1) rfl<|Xt 6 hs rfl (Y_ld 2 isAgg25 rfl rfl hq ?_))
  have hle:=hs.le
  refine Xo 7 rfl (Sc (rrou_ok (wp:=.slice Ap f.progs.length cp) (wr:=vr) (nn:=f.nodes.length) (es:=f.edges) hEd0 oM hq6 oM oM) hs rfl fun v12 G' H' _ hR hG152 hs=>?_)
  obtain ⟨rfl,hRt⟩:=hR
  replace hs:=hs.n rfl
  replace hLr:=hLr.mono hG152
  replace hPg0:=hPg0.mono hG152
  replace hNd0:=hNd0.mono hG152
  replace hEd0:=hEd0.mono hG152
  obtain ⟨A152,c152,rfl,_⟩:=id hRt
  refine A_moreS hs hle hG152 (List.Sublist.refl _) ?_
  have hle:=hs.le
  refine Xo 8 rfl (S_lit hs underlying36 sizeOf45 zeroValue45 rfl rfl dC dC rfl (cs:=[_]) rfl rfl fun v13 _ hs _=>?_)
  obtain ⟨_,hG153,hl153,hs⟩:=hs.fixRow noM
  replace hLr:=hLr.mono hG153
  replace hPg0:=hPg0.mono hG153
  replace hNd0:=hNd0.mono hG153
  replace hEd0:=hEd0.mono hG153
  replace hRt:=hRt.mono hG153
  refine A_moreS hs hle hG153 (List.Sublist.refl _)<|Xa 9 rfl (S_append hs underlying36 TI45 rfl dC rfl rfl (hl153) (one1 rfl) oM oM fun v14 _ hs =>Xa 10 rfl (S_y hs rfl (Yf 3 rfl<|Xn 11 rfl (Sd hs.f1 rfl (hs.f1.rowOne 1 rfl) fun _ hs=>Xe (Zk [1,2,3,13] rfl<|Wu 2 [] hs rfl<|Zy hs (Ya (s:=((r+1:Nat):Int)) rfl<|Wp 1 [] hs rfl ?_))))))
  have hs:=hs.f3.f3.f2.f3
  refine Zx [1,2,3,13] rfl ⟨r+1,_,rs++[.slice A152 (routeMd f.edges f.nodes.length q).length c152],_,by omega,(by rw [take_next hRi];exact hLr.snoc (by rw [← hfed,← hfn];exact natsI hRt)),hPg0,hNd0,hEd0,rfl,rfl,hs.weak hs.le (Ghost.le.refl _) (List.sublist_append_left [_,_,_,_] _)⟩
 refine Wp 3 [0] hs rfl ?_
 have hrn2:r=(rcnt sz.toNat):=by omega
 rw [hrn2,List.take_of_length_le (by rw [hfrl];exact Nat.le_refl _)] at hLr
 rw [hrn2] at hs
 refine Wu 3 [1] hs rfl<|O_n (S_stA hs.f3 sizeOf38 rfl rfl (vs:=[_,_,_,_]) rfl (by simp only [List.all_cons,List.all_nil,hs.f3.rowOne 1 rfl];rfl) sM (cs':=[_,_,_,_]) rfl fun _ hs =>Wp 1 [0] hs rfl<|T_ret ?_)
 have hs:=hs.f1
 obtain ⟨_,hG_hfr,hfr,hs⟩:=hs.fixRow noM
 replace hLr:=hLr.mono hG_hfr
 replace hPg0:=hPg0.mono hG_hfr
 replace hNd0:=hNd0.mono hG_hfr
 replace hEd0:=hEd0.mono hG_hfr
 refine Zz results12 (Rb 0 hs rfl rF) ?_
 exact ⟨_,[],hs.done,rfl,by rw [← hfe];exact FltR.of hPg0 hNd0 hEd0 (LRowI.fin hfr hfrl.symm hLr)⟩
theorem small_ok14:(List.range 14).all (fun k=>okP (smallP k) && (szP (smallP k) && wP (smallP k)))=true:=by kernel_rfl
theorem small_at {k:Nat} (h:k<14):okP (smallP k)=true∧szP (smallP k)=true∧wP (smallP k)=true:=by
  have:=List.all_eq_true.1 small_ok14 k (List.mem_range.2 h)
  simpa only [Bool.and_eq_true] using this
structure FOk (f:FltM):Prop where
  z:FSz f
  o:∀ p∈f.progs,OkP p
  s:∀ p∈f.progs,szP p=true
  w:∀ p∈f.progs,wP p=true
  pl:f.progs.length≤1000
  rl:f.routes.length≤1000
def exF:FltM:=⟨(List.range 6).map smallP,[⟨[5],0,0,false⟩,⟨[4],0,0,false⟩,⟨[4,0],0,0,false⟩,⟨[0,4],1,0,false⟩],[(0,1),(1,3),(0,2),(2,3),(1,2)],[[0,1,3]]⟩
def bdF:FltM:=⟨(List.range 6).map smallP,[⟨[5],0,0,false⟩,⟨[4],0,0,false⟩,⟨[4,0],0,0,false⟩,⟨[0,4],1,0,false⟩],[(0,1),(1,3),(0,2),(2,3),(1,2)],[[0,3]]⟩
def noF:FltM:=⟨[],[],[],[]⟩
theorem six_ok {p:ProgM} (h:p∈(List.range 6).map smallP):okP p=true∧szP p=true∧wP p=true:=by
  obtain ⟨k,hk,rfl⟩:=List.mem_map.1 h
  exact small_at (Nat.lt_trans (List.mem_range.1 hk) dC)
theorem exF_ok:FOk exF:=⟨⟨by decide,by decide,by decide,by decide⟩,fun p h=>.inl (six_ok h).1,fun p h=>(six_ok h).2.1,fun p h=>(six_ok h).2.2,by decide,by decide⟩
theorem bdF_ok:FOk bdF:=⟨⟨by decide,by decide,by decide,by decide⟩,fun p h=>.inl (six_ok h).1,fun p h=>(six_ok h).2.1,fun p h=>(six_ok h).2.2,by decide,by decide⟩
theorem noF_ok:FOk noF:=⟨⟨by decide,by decide,by decide,by decide⟩,fun p h=>Z52,fun p h=>Z52,fun p h=>Z52,by decide,by decide⟩
theorem seF_ok:FOk (setF exF 2 1):=⟨⟨by decide,by decide,by decide,by decide⟩,fun p h=>.inl (six_ok h).1,fun p h=>(six_ok h).2.1,fun p h=>(six_ok h).2.2,by decide,by decide⟩
theorem exF_c:checkE exF=0:=by kernel_rfl
theorem bdF_c:checkE bdF=300:=by kernel_rfl
theorem noF_c:checkE noF=1:=by kernel_rfl
theorem seF_c:checkE (setF exF 2 1)=0:=by kernel_rfl
theorem exF_p:(pathsF exF 0 3).map ints=[[0,1,2,3],[0,1,3],[0,2,3]]:=by decide
theorem exF_u {u:List Int} (h:UsedP exF u):u=[0,1] :=
  used_eq (f:=exF) (g:=exF) h ⟨by decide,fun x=>by rw [show rawU exF=[0,1] from by decide]⟩ (fun _=>Iff.rfl)
theorem exF_q {q:List (Int×Int)} (h:PairsP exF q):q=[(4,4),(5,4)] :=
  pairs_eq (f:=exF) (g:=exF) h ⟨by decide,fun p=>by
    rw [show rawL exF=[(0,1),(1,3)] from by decide]
    constructor
    · intro hp
      simp only [List.mem_cons,List.not_mem_nil,or_false] at hp
      rcases hp with rfl | rfl
      · exact ⟨(1,3),by simp,by decide⟩
      · exact ⟨(0,1),by simp,by decide⟩
    · rintro ⟨e,he,rfl⟩
      simp only [List.mem_cons,List.not_mem_nil,or_false] at he
      rcases he with rfl | rfl<;>decide⟩ (fun _=>Iff.rfl)
theorem lnR {G:Ghost} {v:Value} {l:List (List Nat)} (h:LN G v l):Rts G v (l.map ints):=by
  obtain ⟨cs,h1,h2,h3⟩:=h
  refine ⟨cs,by rw [List.length_map];exact h1,?_,h3⟩
  clear h1 h3
  induction l generalizing cs with
  | nil=>cases cs with
    | nil=>trivial
    | cons _ _=>exact h2.elim
  | cons a l ih=>cases cs with
    | nil=>exact h2.elim
    | cons c cs =>
      obtain ⟨⟨u,e,hu⟩,h2⟩:=h2
      exact ⟨⟨u,e,natsI hu⟩,ih cs h2⟩
theorem nds_four {G:Ghost} {v a b c d:Value} {x y z u:NodM} (h:Sl G v 4 4 [a,Vi x.runs,Vi x.claims,.bool x.up,b,Vi y.runs,Vi y.claims,.bool y.up,c,Vi z.runs,Vi z.claims,.bool z.up,d,Vi u.runs,Vi u.claims,.bool u.up]) (ha:Ints G a x.vers) (hb:Ints G b y.vers) (hc:Ints G c z.vers) (hd:Ints G d u.vers):Nds G v [x,y,z,u] :=
  LstR.ofSl (cs:=[[a,Vi x.runs,Vi x.claims,.bool x.up],[b,Vi y.runs,Vi y.claims,.bool y.up],[c,Vi z.runs,Vi z.claims,.bool z.up],[d,Vi u.runs,Vi u.claims,.bool u.up]]) h rfl rfl ⟨⟨_,rfl,ha⟩,⟨_,rfl,hb⟩,⟨_,rfl,hc⟩,⟨_,rfl,hd⟩,trivial⟩ (by intro c h;simp only [List.mem_cons,List.not_mem_nil,or_false] at h;rcases h with rfl | rfl | rfl | rfl<;>rfl)
theorem exam_ok {G:Ghost} :
  FnOk prog 31 [] G [] fun r G' H'=>H'=[]∧FltR G' r exF:=by
 refine FnOk.of_T [] func31 rfl ntmps31 sM rfl fun w0 hs =>Wt 2 [] hs rfl<|O_s (Sa hs zeroValue38 rfl fun b0 _ hs=>Wp 3 [0] hs rfl<|Zy hs (Y_buildA underlying31 sizeOf3 zeroValue31 rfl rfl (cs:=[_,_]) rfl<|Zy hs (Y_buildA underlying31 sizeOf3 zeroValue31 rfl rfl (cs:=[_,_]) rfl<|Zy hs (Y_buildA underlying31 sizeOf3 zeroValue31 rfl rfl (cs:=[_,_]) rfl<|Zy hs (Y_buildA underlying31 sizeOf3 zeroValue31 rfl rfl (cs:=[_,_]) rfl<|Zy hs (Y_buildA underlying31 sizeOf3 zeroValue31 rfl rfl (cs:=[_,_]) rfl<|O_s (S_lit hs underlying35 sizeOf31 zeroValue31 rfl rfl dC dC rfl (cs:=[_,_,_,_,_,_,_,_,_,_]) rfl rfl fun v1 _ hs _=>?_)))))))
 have hsN:=hs.fixRow noM
 clear hs
 obtain ⟨_,hG8,hl8,hs⟩:=hsN
 obtain ⟨A8,c8,rfl,_⟩:=id hl8
 refine O_s (S_lit hs underlying45 sizeOf3 zeroValue3 rfl rfl dC dC rfl (cs:=[_,_,_]) rfl rfl fun v2 _ hs _=>?_)
 have hsN:=hs.fixRow noM
 clear hs
 obtain ⟨_,hG9,hl9,hs⟩:=hsN
 replace hl8:=hl8.mono hG9
 obtain ⟨A9,c9,rfl,_⟩:=id hl9
 refine O_s (S_lit hs underlying36 sizeOf45 zeroValue45 rfl rfl dC dC rfl (cs:=[_]) rfl rfl fun v3 _ hs _=>?_)
 have hsN:=hs.fixRow noM
 clear hs
 obtain ⟨_,hG10,hl10,hs⟩:=hsN
 replace hl8:=hl8.mono hG10
 replace hl9:=hl9.mono hG10
 obtain ⟨A10,c10,rfl,_⟩:=id hl10
 refine Zy hs (Y_build zeroValue38 rfl PL38 rfl (cs:=[_,_,_,_]) rfl<|O_s (Sa hs zeroValue38 rfl fun b1 _ hs=>O_n (S_stA hs sizeOf38 rfl rfl (vs:=[_,_,_,_]) rfl (rfl) sM (cs':=[_,_,_,_]) rfl fun _ hs =>Wp 6 [0,0] hs rfl ?_)))
 have hs:=hs.nilRow 70 2
 have hs:=hs.f2.f2.f2
 refine Zl [0,1,2] (fun m E w=>∃ (i:Nat) (vp:Value) (css:List (List Value)) (G2:Ghost),i≤6∧AccP G2 css (((List.range 6).map smallP).take i)∧Sl G2 (.slice A8 5 c8) 2 5 (prL exF.edges)∧Ints G2 (.slice A9 3 c9) [0,1,3]∧Sl G2 (.slice A10 1 c10) 1 1 [.slice A9 3 c9]∧m=6-i∧E=⟨[],[(0,Vp b0),(1,Vp b1),(2,Vi (i:Int))]⟩∧St ⟨w0,G,feet []⟩ G2 [.row 70 2 vp i css.flatten,.blk b1 38 [vp,Vn,.slice A8 5 c8,.slice A10 1 c10],.blk b0 38 [Vn,Vn,Vn,Vn]] w) rfl (⟨0,_,[],_,by omega,⟨trivial,by simp⟩,hl8,hl9,hl10,rfl,rfl,hs⟩) fun m E w hI=>?_
 obtain ⟨i,vp,css,G2,hi,hA,hl8,hl9,hl10,rfl,rfl,hs⟩:=hI
 refine Wt 4 [] hs rfl<|Zy hs (Yc rfl (fun h13=>?_) fun h13=>?_)
 ·
  refine Wp 3 [0] hs rfl ?_
  obtain ⟨q,hq⟩:∃ q:UInt8,q.toNat=i:=⟨UInt8.ofNat i,by rw [UInt8.toNat_ofNat'];omega⟩
  refine Wu 2 [] hs rfl<|T_drawS [0,1,2,3,4,5] hs kR ?_
  replace hs:=hs.drew
  refine Xr [0,1,2] [0,1] hs rfl<|Xt 3 hs rfl (Y_conv underlying3 underlying5 (c:=(q.toNat:Int)) rfl (by rw [IntKind.wrap_u8];omega) ?_)
  have hle:=hs.le
  refine Xo 4 rfl (Sc (rsml_ok (k:=q)) hs rfl fun v4 G' H' _ hR hG20 hs=>?_)
  obtain ⟨rfl,wa,wb,rfl,hPg⟩:=hR
  replace hs:=hs.n rfl
  replace hA:=hA.mono hG20
  replace hl8:=hl8.mono hG20
  replace hl9:=hl9.mono hG20
  replace hl10:=hl10.mono hG20
  obtain ⟨Aa,ka,Ab,kb,rfl,rfl⟩:=hPg.slices
  refine A_moreS hs hle hG20 (List.Sublist.refl _) ?_
  have hle:=hs.le
  refine Xo 5 rfl (S_lit hs underlying33 sizeOf70 zeroValue70 rfl rfl dC dC rfl (cs:=[_,_]) rfl rfl fun v5 _ hs _=>?_)
  obtain ⟨_,hG21,hl21,hs⟩:=hs.fixRow noM
  replace hA:=hA.mono hG21
  replace hl8:=hl8.mono hG21
  replace hl9:=hl9.mono hG21
  replace hl10:=hl10.mono hG21
  replace hPg:=hPg.mono hG21
  refine A_moreS hs hle hG21 (List.Sublist.refl _)<|Xa 6 rfl (S_append hs underlying33 TI70 rfl dC rfl rfl (hl21) ((all_one rfl)) oM oM fun v6 _ hs =>Xa 7 rfl (S_y hs rfl (Yf 0 rfl<|Xn 8 rfl (Sd hs.f1 rfl (hs.f1.rowOne 1 rfl) fun _ hs=>Xe (Zk [0,1,2] rfl<|Wu 2 [] hs rfl<|Zy hs (Ya (s:=((i+1:Nat):Int)) rfl<|Wp 1 [] hs rfl ?_))))))
  have hs:=hs.f2.f1.f2
  refine Zx [0,1,2] rfl ⟨i+1,_,css++[[.slice Aa (smallP (q.toNat % 14)).stmts.length ka,.slice Ab (smallP (q.toNat % 14)).blocks.length kb]],_,by omega,(by rw [take_next (a:=smallP (q.toNat % 14)) (by rw [List.getElem?_map,List.getElem?_range oM,hq,Nat.mod_eq_of_lt oM];rfl)];exact hA.snoc hPg rfl),hl8,hl9,hl10,rfl,rfl,castR (hs.weak hs.le (Ghost.le.refl _) (List.sublist_append_left [_,_,_] _)) sM⟩
 refine Wp 3 [0] hs rfl ?_
 have hin:i=6:=by omega
 rw [hin] at hA hs
 rw [List.take_of_length_le dC] at hA
 obtain ⟨_,hG_hfv,hfv,hs⟩:=hs.fixRow noM
 replace hA:=hA.mono hG_hfv
 replace hl8:=hl8.mono hG_hfv
 replace hl9:=hl9.mono hG_hfv
 replace hl10:=hl10.mono hG_hfv
 have hPg0:Pgs _ _ ((List.range 6).map smallP):=hA.fin hfv rfl
 obtain ⟨Ap,cp,hpe⟩:=LstR.slice hPg0
 subst hpe
 refine Wu 2 [] hs rfl<|O_s (S_lit hs underlying45 sizeOf3 zeroValue3 rfl rfl dC dC rfl (cs:=[_]) rfl rfl fun v7 _ hs _=>?_)
 have hsN:=hs.fixRow noM
 clear hs
 obtain ⟨_,hG24,hl24,hs⟩:=hsN
 replace hl8:=hl8.mono hG24
 replace hl9:=hl9.mono hG24
 replace hl10:=hl10.mono hG24
 replace hPg0:=hPg0.mono hG24
 obtain ⟨A24,c24,rfl,_⟩:=id hl24
 refine Zy hs (Y_build zeroValue61 rfl PL61 rfl (cs:=[_,_,_,_]) rfl<|O_s (S_lit hs underlying45 sizeOf3 zeroValue3 rfl rfl dC dC rfl (cs:=[_]) rfl rfl fun v8 _ hs _=>?_))
 have hsN:=hs.fixRow noM
 clear hs
 obtain ⟨_,hG26,hl26,hs⟩:=hsN
 replace hl8:=hl8.mono hG26
 replace hl9:=hl9.mono hG26
 replace hl10:=hl10.mono hG26
 replace hPg0:=hPg0.mono hG26
 replace hl24:=hl24.mono hG26
 obtain ⟨A26,c26,rfl,_⟩:=id hl26
 refine Zy hs (Y_build zeroValue61 rfl PL61 rfl (cs:=[_,_,_,_]) rfl<|O_s (S_lit hs underlying45 sizeOf3 zeroValue3 rfl rfl dC dC rfl (cs:=[_,_]) rfl rfl fun v9 _ hs _=>?_))
 have hsN:=hs.fixRow noM
 clear hs
 obtain ⟨_,hG28,hl28,hs⟩:=hsN
 replace hl8:=hl8.mono hG28
 replace hl9:=hl9.mono hG28
 replace hl10:=hl10.mono hG28
 replace hPg0:=hPg0.mono hG28
 replace hl24:=hl24.mono hG28
 replace hl26:=hl26.mono hG28
 obtain ⟨A28,c28,rfl,_⟩:=id hl28
 refine Zy hs (Y_build zeroValue61 rfl PL61 rfl (cs:=[_,_,_,_]) rfl<|O_s (S_lit hs underlying45 sizeOf3 zeroValue3 rfl rfl dC dC rfl (cs:=[_,_]) rfl rfl fun v10 _ hs _=>?_))
 have hsN:=hs.fixRow noM
 clear hs
 obtain ⟨_,hG30,hl30,hs⟩:=hsN
 replace hl8:=hl8.mono hG30
 replace hl9:=hl9.mono hG30
 replace hl10:=hl10.mono hG30
 replace hPg0:=hPg0.mono hG30
 replace hl24:=hl24.mono hG30
 replace hl26:=hl26.mono hG30
 replace hl28:=hl28.mono hG30
 obtain ⟨A30,c30,rfl,_⟩:=id hl30
 refine Zy hs (Y_build zeroValue61 rfl PL61 rfl (cs:=[_,_,_,_]) rfl<|O_s (S_lit hs underlying34 sizeOf61 zeroValue61 rfl rfl dC dC rfl (cs:=[_,_,_,_,_,_,_,_,_,_,_,_,_,_,_,_]) rfl rfl fun v11 _ hs _=>?_))
 have hsN:=hs.fixRow noM
 clear hs
 obtain ⟨_,hG32,hl32,hs⟩:=hsN
 replace hl8:=hl8.mono hG32
 replace hl9:=hl9.mono hG32
 replace hl10:=hl10.mono hG32
 replace hPg0:=hPg0.mono hG32
 replace hl24:=hl24.mono hG32
 replace hl26:=hl26.mono hG32
 replace hl28:=hl28.mono hG32
 replace hl30:=hl30.mono hG32
 obtain ⟨A32,c32,rfl,_⟩:=id hl32
 refine Wp 1 [1] hs rfl<|O_n (Sd hs rfl rfl fun _ hs=>Wp 4 [0,0] hs rfl<|O_n (S_stA hs.f1 sizeOf38 rfl rfl (vs:=[_,_,_,_]) rfl (rfl) sM (cs':=[_,_,_,_]) rfl fun _ hs =>Wp 1 [0] hs rfl<|T_ret<|Zz results31 (Rb 0 hs rfl rF) ?_))
 exact ⟨_,[],hs.done,rfl,FltR.of (f:=exF) hPg0 (nds_four hl32 hl24 hl26 hl28 hl30) (eds_of hl8) (LRowI.fin hl10 rfl ⟨hl9,trivial⟩)⟩
theorem sani_ok {G:Ghost} (hT:Tab G) :
  FnOk prog 10 [] G [] fun r _ H'=>H'=[]∧r=Vt:=by
 refine FnOk.of_T [] func10 rfl ntmps10 sM rfl fun w0 hs=>?_
 have hT0:=hT
 refine Wt 6 [0] hs rfl<|O_s (Sc (exam_ok) hs rfl fun v1 G' H' _ hR hG19 hs=>?_)
 obtain ⟨rfl,hF⟩:=hR
 replace hs:=hs.n rfl
 replace hT:=hT.mono hG19
 obtain ⟨Ap,An,Ae,Ar,cp,cn,ce,cr,rfl,hf⟩:=hF
 refine O_s (Sa hs zeroValue38 rfl fun b1 _ hs=>O_n (Sg hs rfl (rfl) fun _ hs=>Wp 4 [0,0] hs rfl<|O_s (Sc (fpth_ok (f:=exF) (a:=0) (b:=3) (n:=4) hf exF_ok.z exF_ok.o hT exF_c rfl dC dC dC dC) hs rfl fun v2 G' H' _ hR hG22 hs=>?_)))
 obtain ⟨rfl,v22,rfl,hL⟩:=hR
 replace hs:=hs.n rfl
 replace hT:=hT.mono hG22
 replace hf:=hf.mono hG22
 have hL2:=lnR hL
 rw [exF_p] at hL2
 obtain ⟨A22,c22,rfl⟩:=LstR.slice hL2
 refine Wp 9 [0,0] hs rfl<|O_s (Sc (fuse_ok (f:=exF) hf exF_ok.z exF_ok.o hT exF_c dC) hs rfl fun v3 G' H' _ hR hG27 hs=>?_)
 obtain ⟨rfl,v27,u27,rfl,hU,hUi,_⟩:=hR
 replace hs:=hs.n rfl
 replace hT:=hT.mono hG27
 replace hf:=hf.mono hG27
 replace hL2:=hL2.mono hG27
 rw [exF_u hU] at hUi
 obtain ⟨A27,c27,rfl,_⟩:=id hUi
 refine Wp 9 [0,0] hs rfl<|O_s (Sc (fpai_ok (f:=exF) hf exF_ok.z exF_ok.o hT exF_c dC) hs rfl fun v4 G' H' _ hR hG32 hs=>?_)
 obtain ⟨rfl,v32,q32,rfl,hQ,hQe,_⟩:=hR
 replace hs:=hs.n rfl
 replace hT:=hT.mono hG32
 replace hf:=hf.mono hG32
 replace hL2:=hL2.mono hG32
 replace hUi:=hUi.mono hG32
 rw [exF_q hQ] at hQe
 obtain ⟨A32,c32,rfl⟩:=LstR.slice hQe
 refine Wp 9 [7,1,2,3,4,5,6,7,0] hs rfl<|O_s (Sc (fprg_ok (f:=exF) (n:=3) hf exF_ok.z exF_ok.o hT exF_c) hs rfl fun v5 G' H' _ hR hG37 hs=>?_)
 obtain ⟨rfl,he37⟩:=hR
 replace hs:=hs.n rfl
 replace hT:=hT.mono hG37
 replace hf:=hf.mono hG37
 replace hL2:=hL2.mono hG37
 replace hUi:=hUi.mono hG37
 replace hQe:=hQe.mono hG37
 rw [if_pos dC,show runI exF 3=4 from by decide] at he37
 subst he37
 refine Wp 9 [0,0] hs rfl<|O_s (Sc (fprg_ok (f:=exF) (n:=4) hf exF_ok.z exF_ok.o hT exF_c) hs rfl fun v6 G' H' _ hR hG42 hs=>?_)
 obtain ⟨rfl,he42⟩:=hR
 replace hs:=hs.n rfl
 replace hT:=hT.mono hG42
 replace hf:=hf.mono hG42
 replace hL2:=hL2.mono hG42
 replace hUi:=hUi.mono hG42
 replace hQe:=hQe.mono hG42
 rw [if_neg dC] at he42
 subst he42
 refine Wp 9 [0,0] hs rfl<|O_s (Sc (fset_ok (f:=exF) (n:=2) (v:=1) hf exF_ok.z exF_ok.o hT exF_ok.s exF_c dC dC) hs rfl fun v7 G' H' _ hR hG47 hs=>?_)
 obtain ⟨rfl,w47,rfl,hF2⟩:=hR
 replace hs:=hs.n rfl
 replace hT:=hT.mono hG47
 replace hf:=hf.mono hG47
 replace hL2:=hL2.mono hG47
 replace hUi:=hUi.mono hG47
 replace hQe:=hQe.mono hG47
 obtain ⟨Ap2,An2,Ae2,Ar2,cp2,cn2,ce2,cr2,rfl,hf2⟩:=hF2
 refine Wp 3 [] hs rfl<|O_s (Sa hs zeroValue38 rfl fun b12 _ hs=>O_n (Sg hs rfl (rfl) fun _ hs=>Wp 5 [12,1,2,3,4,5,6,7,8,9,11,12,13,0] hs rfl<|O_s (Sc (fprg_ok (f:=setF exF 2 1) (n:=2) hf2 seF_ok.z seF_ok.o hT seF_c) hs rfl fun v8 G' H' _ hR hG52 hs=>?_)))
 obtain ⟨rfl,he52⟩:=hR
 replace hs:=hs.n rfl
 replace hT:=hT.mono hG52
 replace hf:=hf.mono hG52
 replace hL2:=hL2.mono hG52
 replace hUi:=hUi.mono hG52
 replace hQe:=hQe.mono hG52
 rw [if_pos dC,show runI (setF exF 2 1) 2=0 from by decide] at he52
 subst he52
 refine Wp 9 [0,1] hs rfl<|O_s (Sa hs zeroValue38 rfl fun b16 _ hs=>O_n (Sg hs rfl (rfl) fun _ hs=>Wp 3 [0] hs rfl<|O_s (Se hs zeroValue3 rfl fun v9 _ hs _=>?_)))
 have hsN:=hs.fixRow noM
 clear hs
 obtain ⟨_,hG56,hl56,hs⟩:=hsN
 replace hT:=hT.mono hG56
 replace hf:=hf.mono hG56
 replace hL2:=hL2.mono hG56
 replace hUi:=hUi.mono hG56
 replace hQe:=hQe.mono hG56
 obtain ⟨A56,c56,rfl,_⟩:=id hl56
 refine O_s (Se hs zeroValue45 rfl fun v10 _ hs _=>?_)
 have hsN:=hs.fixRow noM
 clear hs
 obtain ⟨_,hG57,hl57,hs⟩:=hsN
 replace hT:=hT.mono hG57
 replace hf:=hf.mono hG57
 replace hL2:=hL2.mono hG57
 replace hUi:=hUi.mono hG57
 replace hQe:=hQe.mono hG57
 replace hl56:=hl56.mono hG57
 obtain ⟨A57,c57,rfl,_⟩:=id hl57
 refine Wp 1 [3] hs rfl<|O_n (Sd hs rfl rfl fun _ hs=>Wp 1 [0] hs rfl ?_)
 have hfb:FltC _ Ap An Ae A57 cp cn ce c57 bdF:=⟨hf.p,hf.n,hf.e,LRowI.fin hl57 rfl ⟨(show Ints _ _ [0,3] from hl56),trivial⟩⟩
 refine Wu 6 [] hs rfl<|O_yes 61 rfl rfl (Se hs zeroValue3 rfl fun v11 _ hs _=>?_)
 have hsN:=hs.fixRow noM
 clear hs
 obtain ⟨_,hG63,hl63,hs⟩:=hsN
 replace hT:=hT.mono hG63
 replace hf:=hf.mono hG63
 replace hL2:=hL2.mono hG63
 replace hUi:=hUi.mono hG63
 replace hQe:=hQe.mono hG63
 replace hfb:=hfb.mono hG63
 obtain ⟨A63,c63,rfl,_⟩:=id hl63
 refine O_yes 61 rfl rfl (Se hs zeroValue3 rfl fun v12 _ hs _=>?_)
 have hsN:=hs.fixRow noM
 clear hs
 obtain ⟨_,hG64,hl64,hs⟩:=hsN
 replace hT:=hT.mono hG64
 replace hf:=hf.mono hG64
 replace hL2:=hL2.mono hG64
 replace hUi:=hUi.mono hG64
 replace hQe:=hQe.mono hG64
 replace hfb:=hfb.mono hG64
 replace hl63:=hl63.mono hG64
 obtain ⟨A64,c64,rfl,_⟩:=id hl64
 refine O_yes 61 rfl rfl (Se hs zeroValue3 rfl fun v13 _ hs _=>?_)
 have hsN:=hs.fixRow noM
 clear hs
 obtain ⟨_,hG65,hl65,hs⟩:=hsN
 replace hT:=hT.mono hG65
 replace hf:=hf.mono hG65
 replace hL2:=hL2.mono hG65
 replace hUi:=hUi.mono hG65
 replace hQe:=hQe.mono hG65
 replace hfb:=hfb.mono hG65
 replace hl63:=hl63.mono hG65
 replace hl64:=hl64.mono hG65
 obtain ⟨A65,c65,rfl,_⟩:=id hl65
 refine O_yes 61 rfl rfl (Se hs zeroValue45 rfl fun v14 _ hs _=>?_)
 have hsN:=hs.fixRow noM
 clear hs
 obtain ⟨_,hG66,hl66,hs⟩:=hsN
 replace hT:=hT.mono hG66
 replace hf:=hf.mono hG66
 replace hL2:=hL2.mono hG66
 replace hUi:=hUi.mono hG66
 replace hQe:=hQe.mono hG66
 replace hfb:=hfb.mono hG66
 replace hl63:=hl63.mono hG66
 replace hl64:=hl64.mono hG66
 replace hl65:=hl65.mono hG66
 obtain ⟨A66,c66,rfl,_⟩:=id hl66
 refine O_yes 61 rfl rfl (Sc (rsls_ok hL2 (LRowI.fin hl66 rfl ⟨hl63,hl64,hl65,trivial⟩) dC dC) hs rfl fun v15 G' H' _ hR hG67 hs=>?_)
 obtain ⟨rfl,rfl⟩:=hR
 replace hs:=hs.n rfl
 replace hT:=hT.mono hG67
 replace hf:=hf.mono hG67
 replace hUi:=hUi.mono hG67
 replace hQe:=hQe.mono hG67
 replace hfb:=hfb.mono hG67
 refine Wp 9 [13,1,4,5,6,7,8,9,11,13,14,15,16,17] hs rfl<|O_yes 71 rfl rfl (Se hs zeroValue3 rfl fun v16 _ hs _=>?_)
 have hsN:=hs.fixRow noM
 clear hs
 obtain ⟨_,hG73,hl73,hs⟩:=hsN
 replace hT:=hT.mono hG73
 replace hf:=hf.mono hG73
 replace hUi:=hUi.mono hG73
 replace hQe:=hQe.mono hG73
 replace hfb:=hfb.mono hG73
 obtain ⟨A73,c73,rfl,_⟩:=id hl73
 refine O_yes 71 rfl rfl (Sc (rsin_ok hUi (show Ints _ _ [0,1] from hl73) dC) hs rfl fun v17 G' H' _ hR hG74 hs=>?_)
 obtain ⟨rfl,rfl⟩:=hR
 replace hs:=hs.n rfl
 replace hT:=hT.mono hG74
 replace hf:=hf.mono hG74
 replace hQe:=hQe.mono hG74
 replace hfb:=hfb.mono hG74
 rw [decide_eq_true rfl]
 refine Wp 7 [] hs rfl<|Zg hs rfl (Y_buildA underlying31 sizeOf3 zeroValue31 rfl rfl (cs:=[_,_]) rfl<|Zg hs rfl (Y_buildA underlying31 sizeOf3 zeroValue31 rfl rfl (cs:=[_,_]) rfl<|O_yes 80 rfl rfl (Se hs zeroValue31 rfl fun v18 _ hs _=>?_)))
 have hsN:=hs.fixRow noM
 clear hs
 obtain ⟨_,hG84,hl84,hs⟩:=hsN
 replace hT:=hT.mono hG84
 replace hf:=hf.mono hG84
 replace hQe:=hQe.mono hG84
 replace hfb:=hfb.mono hG84
 obtain ⟨A84,c84,rfl,_⟩:=id hl84
 refine O_yes 80 rfl rfl (Sc (rspr_ok hQe (eds_of (q:=[(4,4),(5,4)]) hl84) dC) hs rfl fun v19 G' H' _ hR hG85 hs=>?_)
 obtain ⟨rfl,rfl⟩:=hR
 replace hs:=hs.n rfl
 replace hT:=hT.mono hG85
 replace hf:=hf.mono hG85
 replace hfb:=hfb.mono hG85
 refine Wp 35 [10,1,8,9,11,13,14,15,16,17,18,2] hs rfl<|O_yes 115 rfl rfl (Sc (fval_ok hf exF_ok.z exF_ok.o hT) hs rfl fun v20 G' H' _ hR hG117 hs=>?_)
 obtain ⟨rfl,rfl⟩:=hR
 replace hs:=hs.n rfl
 replace hT:=hT.mono hG117
 replace hfb:=hfb.mono hG117
 rw [exF_c]
 refine Wp 4 [0] hs rfl<|O_yes 120 rfl rfl (Sc (fval_ok (f:=bdF) hfb bdF_ok.z bdF_ok.o hT) hs rfl fun v21 G' H' _ hR hG122 hs=>?_)
 obtain ⟨rfl,rfl⟩:=hR
 replace hs:=hs.n rfl
 replace hT:=hT.mono hG122
 rw [bdF_c]
 refine Wp 3 [] hs rfl<|Zg hs rfl (Y_build zeroValue38 rfl PL38 rfl (cs:=[_,_,_,_]) rfl<|O_yes 125 rfl rfl (Sc (fval_ok (f:=noF) ⟨LstR.nil,LstR.nil,LstR.nil,LstR.nil⟩ noF_ok.z noF_ok.o hT) hs rfl fun v22 G' H' _ hR hG127 hs=>?_))
 obtain ⟨rfl,rfl⟩:=hR
 replace hs:=hs.n rfl
 rw [noF_c]
 refine Wp 4 [1,0] hs rfl<|T_ret<|Zz results10 rfl ?_
 exact ⟨_,[],hs.done,rfl,rfl⟩
theorem made_fok {x:RawM} (hx:x.ok):FOk (madeF x):=by
  have hn:=made_n hx;have hp:=made_p hx;have hr:=made_r hx
  have hn2:=ncnt_le x.size;have hp2:=pcnt_le x.size;have hr2:=rcnt_le x.size
  have hpr:∀ p∈(madeF x).progs,okP p=true∧szP p=true∧wP p=true:=by
    intro p h
    have h':p∈(x.progs.take (pcnt x.size)).map fun k=>smallP (k % 14):=h
    obtain ⟨k,_,rfl⟩:=List.mem_map.1 h'
    exact small_at (Nat.mod_lt _ dC)
  refine ⟨⟨by omega,?_,?_,?_⟩,fun p h=>.inl (hpr p h).1,fun p h=>(hpr p h).2.1,fun p h=>(hpr p h).2.2,by omega,by omega⟩
  · show (edP x.edges (ncnt x.size) (ncnt x.size)).length≤1000
    have:=edP_le x.edges (ncnt x.size) (ncnt x.size)
    have h25:ncnt x.size*ncnt x.size≤5*5:=Nat.mul_le_mul hn2.2 hn2.2
    omega
  · intro y hy
    have hy':y∈(x.nodes.take (ncnt x.size)).map (nodeMd (pcnt x.size)):=hy
    obtain ⟨k,_,rfl⟩:=List.mem_map.1 hy'
    show (versMd _ _).length≤1000
    rw [vers_len];have:=vcnt_le k;omega
  · intro r h
    obtain ⟨l,rfl,_,_,_,h5⟩:=made_route h
    unfold ints;rw [List.length_map];omega
end Go.Proofs.YtkeplgdofphnkaaGreatDoor
